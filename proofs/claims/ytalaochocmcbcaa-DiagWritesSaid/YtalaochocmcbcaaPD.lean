/- What the laws of this chapter rest on, part 4: what the functions that they reach answer, each shown once. Conditions: what each theorem states. (Merged by a program of this session, wip/tools/merge.py, out of its own texts and of the words that the kit's print wrote for this seat, cut to those that are used.) -/
import Derived.Maps.OwnOps
import Derived.Maps.Views
import Derived.Deep.CutRange
import Derived.Test.YtalaochocmcbcaaPC
set_option linter.unusedVariables false
set_option linter.unusedSimpArgs false
set_option maxHeartbeats 16000000
set_option maxRecDepth 100000
section
namespace Go.Proofs.Ytalaochocmcbcaa.Diag
open Go.RowKit Go.Maps Go.Proofs.Ytalaochocmcbcaa.P Go.Proofs.Ytalaochocmcbcaa.E Go.Proofs.Ytalaochocmcbcaa.Cur Go.Proofs.Ytalaochocmcbcaa.Cu Go.Proofs.Ytalaochocmcbcaa.Same Go.Proofs.Ytalaochocmcbcaa.Code Go.Proofs.YtalaochocmcbcaaW.PrintWords Go.Proofs.YtalaochocmcbcaaW.PrintLast Go.Proofs.YtalaochocmcbcaaW.PrintMore
def leftR : (Cu → Cu × Int) := fun c => (c, (c.xs.length : Int))
def mayB (dir s v : Int) : Bool := if (s = 2 ∨ (11 ≤ s ∧ s ≤ 18)) ∧ dir = 1 then true else if s = 1 then (v == 0 || v == 65280) else if s = 3 then (v % 256 == 0) else v == 0
def subB (s : Int) : Bool := bitsubL.contains s
theorem sub_c {s : Int} (hs : (Lit.int .u16 s).wf = true) (w : World) : Calls Try.prog 41 #[.int .u16 s] w fun e w' => e = .returned (.bool (subB s)) ∧ Below w.heap.size w w' := bitsub_any s w hs
def echoR (m : Msg) : (Cu → Cu × Msg) := Rd.bind leftR fun n => Rd.bind (Rd.need (n % 2 == 0 && (decide (2 ≤ n) && decide (n ≤ 250))) 5) fun _ => Rd.bind (Rd.words (n / 2)) fun l => Rd.ret { m with words := l }
def lineR (dir : Int) (m : Msg) : (Cu → Cu × Msg) := Rd.bind Rd.word fun s => Rd.bind (Rd.need (subB s && (dir == 0 || s != 4)) 8) fun _ => if s = 0 then echoR { m with sub := s } else
  Rd.bind (Rd.words 1) fun l => Rd.bind (Rd.need (l.length == 1 && mayB dir s (l.headD 0)) 6) fun _ => Rd.ret { m with sub := s, words := l }
def busyR : (Cu → Cu × Int) := Rd.bind Rd.word fun s => Rd.bind (Rd.need (s == 0 || s == 65535) 6) fun _ => Rd.ret s
def eventsR (m : Msg) : (Cu → Cu × Msg) := Rd.bind busyR fun s => Rd.bind Rd.word fun e => Rd.ret { m with status := s, events := e }
def logsR (m : Msg) : (Cu → Cu × Msg) := Rd.bind Rd.byte fun n => Rd.bind (Rd.need (decide (6 ≤ n) && decide (n ≤ 70)) 5) fun _ => Rd.bind busyR fun s => Rd.bind Rd.word fun e => Rd.bind Rd.word fun g => Rd.bind (Rd.bytes (n - 6)) fun l => Rd.ret { m with status := s, events := e, messages := g, data := l }
def nameR (m : Msg) : (Cu → Cu × Msg) := Rd.bind Rd.byte fun n => Rd.bind (Rd.need (decide (1 ≤ n) && decide (n ≤ 251)) 5) fun _ => Rd.bind (Rd.bytes n) fun l => Rd.ret { m with data := l }
def ansR (m : Msg) : (Cu → Cu × Msg) := if m.code = 7 then Rd.bind Rd.byte fun v => Rd.ret { m with value := v } else if m.code = 11 then eventsR m else if m.code = 12 then logsR m else if m.code = 17 then nameR m else Rd.ret m
def bodyR (dir : Int) (m : Msg) : (Cu → Cu × Msg) := if m.code = 8 then lineR dir m else if dir = 1 then ansR m else Rd.ret m
def isCode (code : Int) : Prop := code = 7 ∨ code = 8 ∨ code = 11 ∨ code = 12 ∨ code = 17
instance (code : Int) : Decidable (isCode code) := by unfold isCode; infer_instance
def parse (dir code : Int) (bs : List Int) : Msg × Int :=
  if dir ≠ 0 ∧ dir ≠ 1 then (zeroM, 1) else if ¬ isCode code then (zeroM, 4) else
  if (bodyR dir { zeroM with code := code } (cu bs)).1.fin.e ≠ 0 then (zeroM, (bodyR dir { zeroM with code := code } (cu bs)).1.fin.e) else ((bodyR dir { zeroM with code := code } (cu bs)).2, 0)
open Classical in
noncomputable def RV (v : Value) : Option (DataW Unit × List MemPlace) := if v = (.func (.func 61) #[] #[]) then some (.lit (.int .i64 2), []) else if v = (.func (.func 62) #[] #[]) then some (.lit (.int .i64 3), []) else none
theorem RV_2 : RV (.func (.func 61) #[] #[]) = some (.lit (.int .i64 2), []) := if_pos rfl
theorem RV_3 : RV (.func (.func 62) #[] #[]) = some (.lit (.int .i64 3), []) := by
  unfold RV
  rw [if_neg (by simp), if_pos rfl]
theorem RV_inv {v : Value} {y : DataW Unit × List MemPlace} (h : RV v = some y) : (y.1 = .lit (.int .i64 2) → v = (.func (.func 61) #[] #[])) ∧ (y.1 = .lit (.int .i64 3) → v = (.func (.func 62) #[] #[])) := by
  unfold RV at h
  split at h
  · rename_i e; cases h; exact ⟨fun _ => e, fun e => by simp at e⟩
  split at h
  · rename_i e; cases h; exact ⟨fun e => by simp at e, fun _ => e⟩
  · cases h
def dl (n : Int) : DataW Unit := .lit (.int .i64 n)
def D0 : DataW Unit := .map []
def D2 : DataW Unit := (D0.put (.int .u16 1) (dl 2)).put (.int .u16 3) (dl 3)
theorem D2_at (c : Int) (zd : DataW Unit) : D2.atKey (.int .u16 c) zd = if c = 3 then dl 3 else if c = 1 then dl 2 else zd := by
  have h0 : IsMap D0 := ⟨[], rfl⟩
  have ne : ∀ a b : Int, a ≠ b → Lit.int .u16 a ≠ Lit.int .u16 b := fun a b h e => h (by injection e)
  unfold D2
  by_cases h : c = 3
  · subst h; rw [if_pos rfl]; exact atKey_put_same (h0.put _ _) (by trivial) _ _
  rw [if_neg h, atKey_put_other (ne _ _ h)]
  by_cases h : c = 1
  · subst h; rw [if_pos rfl]; exact atKey_put_same h0 (by trivial) _ _
  rw [if_neg h, atKey_put_other (ne _ _ h)]
  rfl
theorem lawk : Keyed Try.prog 24 := int_keyed Try.underlying24
theorem zeroF (w : World) : (zeroValue 45).run Try.prog w = .ok .nilFunc w := by kernel_rfl
theorem look_m {w : World} {b n : Nat} (h : w.ownsMap Try.prog 24 RV b n D2) (c : Int) (hc : (Lit.int .u16 c).wf = true) :
    (Instr.lookup 87 (.map (some b)) (.int .u16 c) true).run Try.prog w = .ok (if c = 1 then .tuple #[(.func (.func 61) #[] #[]), .bool true] else if c = 3 then .tuple #[(.func (.func 62) #[] #[]), .bool true] else .tuple #[.nilFunc, .bool false]) w := by
  obtain ⟨es, clock, hb, F, _, hD⟩ := h
  rcases fit_look true lawk Try.underlying87 (zeroF _) hb F (keyOf_int_mk Try.underlying24 hc) with ⟨hrun, _, hat⟩ | ⟨e0, y, _, _, hrun, hRv, hat, _⟩
  · rw [if_pos rfl] at hrun
    rw [hrun]
    have ha := hat (dl 77)
    rw [← hD, D2_at] at ha
    have n3 : ¬ c = 3 := fun e => by rw [if_pos e] at ha; simp [dl] at ha
    rw [if_neg n3] at ha
    have n1 : ¬ c = 1 := fun e => by rw [if_pos e] at ha; simp [dl] at ha
    rw [if_neg n1, if_neg n3]
  · rw [if_pos rfl] at hrun
    rw [hrun]
    have R := RV_inv hRv
    have ha := hat (dl 77)
    have hb := hat (dl 78)
    rw [← hD, D2_at] at ha hb
    by_cases h3 : c = 3
    · rw [if_pos h3] at ha
      rw [if_neg (show ¬ c = 1 by omega), if_pos h3, R.2 ha.symm]
    rw [if_neg h3] at ha hb
    by_cases h1 : c = 1
    · rw [if_pos h1] at ha
      rw [if_pos h1, R.1 ha.symm]
    rw [if_neg h1] at ha hb
    exact absurd (ha.trans hb.symm) (by simp [dl])
theorem ev_insert {H : Type} {P : Program} (w : World) {ops : Array Oper} {rest : List Oper} {o : Oper} {a : Act} {Q : Exit → Act → World → Prop}
    (hg : o.guard = none) (m x v : Operand) (t : TypeId) (hop : o.op = Op.insert t m x v)
    (k e : TypeId) (K : Keyed P k) (ht : P.underlying t = some (.map k e)) (R : Value → Option (DataW H × List MemPlace)) (b n : Nat) (D : DataW H)
    (hm : a.eval m = .map (some b)) (hown : w.ownsMap P k R b n D) (hn : n < maxLen) (key val : Value) (kl : Lit) (hx : a.eval x = key) (hv : a.eval v = val) (hkey : keyOf P k key = some kl)
    (d : DataW H) (ps : List MemPlace) (hval : R val = some (d, ps))
    (hK : ∀ w', w'.ownsMap P k R b (n + 1) (D.put kl d) → w.grownBy w' (some b) → wpList P ops Q rest (a.put o.dst undef) w') :
    wpList P ops Q (o :: rest) a w := by
  refine wpList_plain hg fun K' hK' => ?_
  obtain ⟨w', hrun, r1, r2⟩ := hown.update K ht hn hkey hval
  unfold Oper.wp
  simp [execOp, hop, hm, hx, hv, hrun, Result.andThen]
  exact hK' _ _ (hK w' r1 r2)
theorem and255 {v : Int} (hv : 0 ≤ v ∧ v < 65536) : bits .and .u16 v 255 = v % 256 := by
  have h := bits_mask .u16 16 (by decide) (fun n h0 h1 => by rw [IntKind.wrap_u16]; omega) 8 (by decide) v hv.1 (by have := hv.2; omega)
  exact h
theorem may_0_1  {v : Int} (hv : 0 ≤ v ∧ v < 65536) (w : World) :
    Calls Try.prog 43 #[.int .i64 0, .int .u16 1, .int .u16 v] w fun en w' => en = .returned (.bool (v == 0 || v == 65280)) ∧ Below w.heap.size w w' := by
  have HV := Aside0.mk hv
  clear hv
  have hmm := @run_makeMap Try.prog
  have hmf : ∀ (fn : Fn) (first cap : Array Value) (w : World), (Instr.makeFunc fn first cap).run Try.prog w = .ok (.func fn first cap) w := fun _ _ _ _ => rfl
  go_enter Try.func43, Try.ntmps43
  go_upto_region 2 with (fail)
  clear hmf
  have O : Aside0 (((w.alloc (.cells #[.int .u16 v] 24 (0, 0))).alloc (.map #[] 0)).ownsMap Try.prog 24 RV (w.heap.size + 1) 0 D0) := ⟨by have h := World.ownsMap_made (P := Try.prog) (k := 24) (R := RV) (w.alloc (.cells #[.int .u16 v] 24 (0, 0))); rw [World.size_alloc] at h; exact h⟩
  have HB := Aside0.mk (((Below.refl w.heap.size w).alloc (Nat.le_refl _) (.cells #[.int .u16 v] 24 (0, 0))).alloc (by rw [World.size_alloc]; omega) (.map #[] 0))
  have KB := Aside0.mk (show ((w.alloc (.cells #[.int .u16 v] 24 (0, 0))).alloc (.map #[] 0)).heap[w.heap.size]? = some (.cells #[.int .u16 v] 24 (0, 0)) from blk_below (blk_new w (.cells #[.int .u16 v] 24 (0, 0))) (below_alloc (Below.refl _ _) (.map #[] 0)))
  go_upto_region 3 with (first | ((with_reducible refine gate_op (u := .insert 87 (.tmp 13) (.const (.int .u16 1)) (.func 61)) rfl ?_); refine ev_insert _ rfl _ _ _ 87 rfl 24 45 lawk Try.underlying87 RV (w.heap.size + 1) 0 _ rfl O.out (by unfold maxLen; omega) _ (.func (.func 61) #[] #[]) _ rfl rfl (keyOf_int_mk Try.underlying24 (by decide)) _ [] RV_2 ?_; intro x0 o_ g_; have kb_ := Aside0.mk (blk_grown KB.out g_ (fun e => by injection e with e; omega)); have n0_ := Aside0.mk o_; have n1_ := Aside0.mk (HB.out.grown g_ HB.out.size (fun j hj => by cases hj; omega)); clear O HB o_ g_ KB; have O := n0_; have HB := n1_; have KB := kb_; clear n0_ n1_ kb_) | ((with_reducible refine gate_op (u := .insert 87 (.tmp 13) (.const (.int .u16 3)) (.func 62)) rfl ?_); refine ev_insert _ rfl _ _ _ 87 rfl 24 45 lawk Try.underlying87 RV (w.heap.size + 1) 1 _ rfl O.out (by unfold maxLen; omega) _ (.func (.func 62) #[] #[]) _ rfl rfl (keyOf_int_mk Try.underlying24 (by decide)) _ [] RV_3 ?_; intro x1 o_ g_; have kb_ := Aside0.mk (blk_grown KB.out g_ (fun e => by injection e with e; omega)); have n0_ := Aside0.mk o_; have n1_ := Aside0.mk (HB.out.grown g_ HB.out.size (fun j hj => by cases hj; omega)); clear O HB o_ g_ KB; have O := n0_; have HB := n1_; have KB := kb_; clear n0_ n1_ kb_))
  have lk : (Instr.lookup 87 (.map (some (w.heap.size + 1))) (.int .u16 1) true).run Try.prog x1 = .ok (.tuple #[(.func (.func 61) #[] #[]), .bool true]) x1 := by
    have h := look_m O.out 1 (by decide)
    exact h
  clear O
  have n0_ := Aside0.mk lk
  clear lk
  have lk := n0_.out
  clear n0_
  go_upto_region 9 with (fail)
  clear lk hmm
  have kv : x1.cell? ⟨w.heap.size, 0, none⟩ = some (.int .u16 v) := (blk_cell KB.out 0).trans rfl
  cases hz_ : (v == 0) with
  | true =>
    go_wp2_with go_in
    go_ret
    exact ⟨by first | rfl | (rw [hz_]; rfl) | (simp [hz_]; done), HB.out⟩
  | false =>
    go_wp2_with go_in
    go_ret
    exact ⟨by rw [hz_]; first | rfl | (simp [hz_]; done), HB.out⟩
theorem may_0_2  {v : Int} (hv : 0 ≤ v ∧ v < 65536) (w : World) :
    Calls Try.prog 43 #[.int .i64 0, .int .u16 2, .int .u16 v] w fun en w' => en = .returned (.bool (v == 0)) ∧ Below w.heap.size w w' := by
  have HV := Aside0.mk hv
  clear hv
  have hmm := @run_makeMap Try.prog
  have hmf : ∀ (fn : Fn) (first cap : Array Value) (w : World), (Instr.makeFunc fn first cap).run Try.prog w = .ok (.func fn first cap) w := fun _ _ _ _ => rfl
  go_enter Try.func43, Try.ntmps43
  go_upto_region 2 with (fail)
  clear hmf
  have O : Aside0 (((w.alloc (.cells #[.int .u16 v] 24 (0, 0))).alloc (.map #[] 0)).ownsMap Try.prog 24 RV (w.heap.size + 1) 0 D0) := ⟨by have h := World.ownsMap_made (P := Try.prog) (k := 24) (R := RV) (w.alloc (.cells #[.int .u16 v] 24 (0, 0))); rw [World.size_alloc] at h; exact h⟩
  have HB := Aside0.mk (((Below.refl w.heap.size w).alloc (Nat.le_refl _) (.cells #[.int .u16 v] 24 (0, 0))).alloc (by rw [World.size_alloc]; omega) (.map #[] 0))
  have KB := Aside0.mk (show ((w.alloc (.cells #[.int .u16 v] 24 (0, 0))).alloc (.map #[] 0)).heap[w.heap.size]? = some (.cells #[.int .u16 v] 24 (0, 0)) from blk_below (blk_new w (.cells #[.int .u16 v] 24 (0, 0))) (below_alloc (Below.refl _ _) (.map #[] 0)))
  go_upto_region 3 with (first | ((with_reducible refine gate_op (u := .insert 87 (.tmp 13) (.const (.int .u16 1)) (.func 61)) rfl ?_); refine ev_insert _ rfl _ _ _ 87 rfl 24 45 lawk Try.underlying87 RV (w.heap.size + 1) 0 _ rfl O.out (by unfold maxLen; omega) _ (.func (.func 61) #[] #[]) _ rfl rfl (keyOf_int_mk Try.underlying24 (by decide)) _ [] RV_2 ?_; intro x0 o_ g_; have kb_ := Aside0.mk (blk_grown KB.out g_ (fun e => by injection e with e; omega)); have n0_ := Aside0.mk o_; have n1_ := Aside0.mk (HB.out.grown g_ HB.out.size (fun j hj => by cases hj; omega)); clear O HB o_ g_ KB; have O := n0_; have HB := n1_; have KB := kb_; clear n0_ n1_ kb_) | ((with_reducible refine gate_op (u := .insert 87 (.tmp 13) (.const (.int .u16 3)) (.func 62)) rfl ?_); refine ev_insert _ rfl _ _ _ 87 rfl 24 45 lawk Try.underlying87 RV (w.heap.size + 1) 1 _ rfl O.out (by unfold maxLen; omega) _ (.func (.func 62) #[] #[]) _ rfl rfl (keyOf_int_mk Try.underlying24 (by decide)) _ [] RV_3 ?_; intro x1 o_ g_; have kb_ := Aside0.mk (blk_grown KB.out g_ (fun e => by injection e with e; omega)); have n0_ := Aside0.mk o_; have n1_ := Aside0.mk (HB.out.grown g_ HB.out.size (fun j hj => by cases hj; omega)); clear O HB o_ g_ KB; have O := n0_; have HB := n1_; have KB := kb_; clear n0_ n1_ kb_))
  have lk : (Instr.lookup 87 (.map (some (w.heap.size + 1))) (.int .u16 2) true).run Try.prog x1 = .ok (.tuple #[.nilFunc, .bool false]) x1 := by
    have h := look_m O.out 2 (by decide)
    rw [if_neg (by decide), if_neg (by decide)] at h
    exact h
  clear O
  have n0_ := Aside0.mk lk
  clear lk
  have lk := n0_.out
  clear n0_
  go_upto_region 9 with (fail)
  clear lk hmm
  have kv : x1.cell? ⟨w.heap.size, 0, none⟩ = some (.int .u16 v) := (blk_cell KB.out 0).trans rfl
  go_wp2_with go_in
  go_ret
  exact ⟨by first | rfl | (simp; done), HB.out⟩
theorem may_0_3  {v : Int} (hv : 0 ≤ v ∧ v < 65536) (w : World) :
    Calls Try.prog 43 #[.int .i64 0, .int .u16 3, .int .u16 v] w fun en w' => en = .returned (.bool (v % 256 == 0)) ∧ Below w.heap.size w w' := by
  have HV := Aside0.mk hv
  clear hv
  have hmm := @run_makeMap Try.prog
  have hmf : ∀ (fn : Fn) (first cap : Array Value) (w : World), (Instr.makeFunc fn first cap).run Try.prog w = .ok (.func fn first cap) w := fun _ _ _ _ => rfl
  go_enter Try.func43, Try.ntmps43
  go_upto_region 2 with (fail)
  clear hmf
  have O : Aside0 (((w.alloc (.cells #[.int .u16 v] 24 (0, 0))).alloc (.map #[] 0)).ownsMap Try.prog 24 RV (w.heap.size + 1) 0 D0) := ⟨by have h := World.ownsMap_made (P := Try.prog) (k := 24) (R := RV) (w.alloc (.cells #[.int .u16 v] 24 (0, 0))); rw [World.size_alloc] at h; exact h⟩
  have HB := Aside0.mk (((Below.refl w.heap.size w).alloc (Nat.le_refl _) (.cells #[.int .u16 v] 24 (0, 0))).alloc (by rw [World.size_alloc]; omega) (.map #[] 0))
  have KB := Aside0.mk (show ((w.alloc (.cells #[.int .u16 v] 24 (0, 0))).alloc (.map #[] 0)).heap[w.heap.size]? = some (.cells #[.int .u16 v] 24 (0, 0)) from blk_below (blk_new w (.cells #[.int .u16 v] 24 (0, 0))) (below_alloc (Below.refl _ _) (.map #[] 0)))
  go_upto_region 3 with (first | ((with_reducible refine gate_op (u := .insert 87 (.tmp 13) (.const (.int .u16 1)) (.func 61)) rfl ?_); refine ev_insert _ rfl _ _ _ 87 rfl 24 45 lawk Try.underlying87 RV (w.heap.size + 1) 0 _ rfl O.out (by unfold maxLen; omega) _ (.func (.func 61) #[] #[]) _ rfl rfl (keyOf_int_mk Try.underlying24 (by decide)) _ [] RV_2 ?_; intro x0 o_ g_; have kb_ := Aside0.mk (blk_grown KB.out g_ (fun e => by injection e with e; omega)); have n0_ := Aside0.mk o_; have n1_ := Aside0.mk (HB.out.grown g_ HB.out.size (fun j hj => by cases hj; omega)); clear O HB o_ g_ KB; have O := n0_; have HB := n1_; have KB := kb_; clear n0_ n1_ kb_) | ((with_reducible refine gate_op (u := .insert 87 (.tmp 13) (.const (.int .u16 3)) (.func 62)) rfl ?_); refine ev_insert _ rfl _ _ _ 87 rfl 24 45 lawk Try.underlying87 RV (w.heap.size + 1) 1 _ rfl O.out (by unfold maxLen; omega) _ (.func (.func 62) #[] #[]) _ rfl rfl (keyOf_int_mk Try.underlying24 (by decide)) _ [] RV_3 ?_; intro x1 o_ g_; have kb_ := Aside0.mk (blk_grown KB.out g_ (fun e => by injection e with e; omega)); have n0_ := Aside0.mk o_; have n1_ := Aside0.mk (HB.out.grown g_ HB.out.size (fun j hj => by cases hj; omega)); clear O HB o_ g_ KB; have O := n0_; have HB := n1_; have KB := kb_; clear n0_ n1_ kb_))
  have lk : (Instr.lookup 87 (.map (some (w.heap.size + 1))) (.int .u16 3) true).run Try.prog x1 = .ok (.tuple #[(.func (.func 62) #[] #[]), .bool true]) x1 := by
    have h := look_m O.out 3 (by decide)
    exact h
  clear O
  have n0_ := Aside0.mk lk
  clear lk
  have lk := n0_.out
  clear n0_
  go_upto_region 9 with (fail)
  clear lk hmm
  have kv : x1.cell? ⟨w.heap.size, 0, none⟩ = some (.int .u16 v) := (blk_cell KB.out 0).trans rfl
  go_wp2_with go_in
  go_ret
  exact ⟨by rw [← and255 HV.out]; first | rfl | (simp; done), HB.out⟩
theorem may_0_mid {s : Int} (hs : 0 ≤ s ∧ s < 65536) {v : Int} (hv : 0 ≤ v ∧ v < 65536) (h1 : 11 ≤ s) (h2 : s ≤ 18) (w : World) :
    Calls Try.prog 43 #[.int .i64 0, .int .u16 s, .int .u16 v] w fun en w' => en = .returned (.bool (v == 0)) ∧ Below w.heap.size w w' := by
  have HS := Aside0.mk hs
  have HV := Aside0.mk hv
  clear hs hv
  have e2 : (s == 2) = false := beq_eq_false_iff_ne.2 (by omega)
  have e11 : decide (s ≥ 11) = true := decide_eq_true (by omega)
  have e18 : decide (s ≤ 18) = true := decide_eq_true (by omega)
  have e11b : decide (11 ≤ s) = true := e11
  have HN := Aside0.mk (show s ≠ 1 ∧ s ≠ 3 by omega)
  clear h1 h2
  have hmm := @run_makeMap Try.prog
  have hmf : ∀ (fn : Fn) (first cap : Array Value) (w : World), (Instr.makeFunc fn first cap).run Try.prog w = .ok (.func fn first cap) w := fun _ _ _ _ => rfl
  go_enter Try.func43, Try.ntmps43
  go_upto_region 2 with (fail)
  clear hmf
  have O : Aside0 (((w.alloc (.cells #[.int .u16 v] 24 (0, 0))).alloc (.map #[] 0)).ownsMap Try.prog 24 RV (w.heap.size + 1) 0 D0) := ⟨by have h := World.ownsMap_made (P := Try.prog) (k := 24) (R := RV) (w.alloc (.cells #[.int .u16 v] 24 (0, 0))); rw [World.size_alloc] at h; exact h⟩
  have HB := Aside0.mk (((Below.refl w.heap.size w).alloc (Nat.le_refl _) (.cells #[.int .u16 v] 24 (0, 0))).alloc (by rw [World.size_alloc]; omega) (.map #[] 0))
  have KB := Aside0.mk (show ((w.alloc (.cells #[.int .u16 v] 24 (0, 0))).alloc (.map #[] 0)).heap[w.heap.size]? = some (.cells #[.int .u16 v] 24 (0, 0)) from blk_below (blk_new w (.cells #[.int .u16 v] 24 (0, 0))) (below_alloc (Below.refl _ _) (.map #[] 0)))
  go_upto_region 3 with (first | ((with_reducible refine gate_op (u := .insert 87 (.tmp 13) (.const (.int .u16 1)) (.func 61)) rfl ?_); refine ev_insert _ rfl _ _ _ 87 rfl 24 45 lawk Try.underlying87 RV (w.heap.size + 1) 0 _ rfl O.out (by unfold maxLen; omega) _ (.func (.func 61) #[] #[]) _ rfl rfl (keyOf_int_mk Try.underlying24 (by decide)) _ [] RV_2 ?_; intro x0 o_ g_; have kb_ := Aside0.mk (blk_grown KB.out g_ (fun e => by injection e with e; omega)); have n0_ := Aside0.mk o_; have n1_ := Aside0.mk (HB.out.grown g_ HB.out.size (fun j hj => by cases hj; omega)); clear O HB o_ g_ KB; have O := n0_; have HB := n1_; have KB := kb_; clear n0_ n1_ kb_) | ((with_reducible refine gate_op (u := .insert 87 (.tmp 13) (.const (.int .u16 3)) (.func 62)) rfl ?_); refine ev_insert _ rfl _ _ _ 87 rfl 24 45 lawk Try.underlying87 RV (w.heap.size + 1) 1 _ rfl O.out (by unfold maxLen; omega) _ (.func (.func 62) #[] #[]) _ rfl rfl (keyOf_int_mk Try.underlying24 (by decide)) _ [] RV_3 ?_; intro x1 o_ g_; have kb_ := Aside0.mk (blk_grown KB.out g_ (fun e => by injection e with e; omega)); have n0_ := Aside0.mk o_; have n1_ := Aside0.mk (HB.out.grown g_ HB.out.size (fun j hj => by cases hj; omega)); clear O HB o_ g_ KB; have O := n0_; have HB := n1_; have KB := kb_; clear n0_ n1_ kb_))
  have lk : (Instr.lookup 87 (.map (some (w.heap.size + 1))) (.int .u16 s) true).run Try.prog x1 = .ok (.tuple #[.nilFunc, .bool false]) x1 := by
    have h := look_m O.out s (by simp [Lit.wf, IntKind.min, IntKind.max, IntKind.signed, IntKind.bits]; have := HS.out; omega)
    rw [if_neg HN.out.1, if_neg HN.out.2] at h
    exact h
  clear O
  have n0_ := Aside0.mk lk
  clear lk
  have lk := n0_.out
  clear n0_
  go_upto_region 9 with (fail)
  clear lk hmm
  have kv : x1.cell? ⟨w.heap.size, 0, none⟩ = some (.int .u16 v) := (blk_cell KB.out 0).trans rfl
  go_wp2_with go_in
  go_ret
  exact ⟨by first | rfl | (simp; done), HB.out⟩
theorem may_0_lo {s : Int} (hs : 0 ≤ s ∧ s < 65536) {v : Int} (hv : 0 ≤ v ∧ v < 65536) (h1 : s < 11) (h2 : s ≠ 1) (h3 : s ≠ 2) (h4 : s ≠ 3) (w : World) :
    Calls Try.prog 43 #[.int .i64 0, .int .u16 s, .int .u16 v] w fun en w' => en = .returned (.bool (v == 0)) ∧ Below w.heap.size w w' := by
  have HS := Aside0.mk hs
  have HV := Aside0.mk hv
  clear hs hv
  have e2 : (s == 2) = false := beq_eq_false_iff_ne.2 (by omega)
  have e11 : decide (s ≥ 11) = false := decide_eq_false (by omega)
  have e11b : decide (11 ≤ s) = false := e11
  have HN := Aside0.mk (show s ≠ 1 ∧ s ≠ 3 by omega)
  clear h1 h2 h3 h4
  have hmm := @run_makeMap Try.prog
  have hmf : ∀ (fn : Fn) (first cap : Array Value) (w : World), (Instr.makeFunc fn first cap).run Try.prog w = .ok (.func fn first cap) w := fun _ _ _ _ => rfl
  go_enter Try.func43, Try.ntmps43
  go_upto_region 2 with (fail)
  clear hmf
  have O : Aside0 (((w.alloc (.cells #[.int .u16 v] 24 (0, 0))).alloc (.map #[] 0)).ownsMap Try.prog 24 RV (w.heap.size + 1) 0 D0) := ⟨by have h := World.ownsMap_made (P := Try.prog) (k := 24) (R := RV) (w.alloc (.cells #[.int .u16 v] 24 (0, 0))); rw [World.size_alloc] at h; exact h⟩
  have HB := Aside0.mk (((Below.refl w.heap.size w).alloc (Nat.le_refl _) (.cells #[.int .u16 v] 24 (0, 0))).alloc (by rw [World.size_alloc]; omega) (.map #[] 0))
  have KB := Aside0.mk (show ((w.alloc (.cells #[.int .u16 v] 24 (0, 0))).alloc (.map #[] 0)).heap[w.heap.size]? = some (.cells #[.int .u16 v] 24 (0, 0)) from blk_below (blk_new w (.cells #[.int .u16 v] 24 (0, 0))) (below_alloc (Below.refl _ _) (.map #[] 0)))
  go_upto_region 3 with (first | ((with_reducible refine gate_op (u := .insert 87 (.tmp 13) (.const (.int .u16 1)) (.func 61)) rfl ?_); refine ev_insert _ rfl _ _ _ 87 rfl 24 45 lawk Try.underlying87 RV (w.heap.size + 1) 0 _ rfl O.out (by unfold maxLen; omega) _ (.func (.func 61) #[] #[]) _ rfl rfl (keyOf_int_mk Try.underlying24 (by decide)) _ [] RV_2 ?_; intro x0 o_ g_; have kb_ := Aside0.mk (blk_grown KB.out g_ (fun e => by injection e with e; omega)); have n0_ := Aside0.mk o_; have n1_ := Aside0.mk (HB.out.grown g_ HB.out.size (fun j hj => by cases hj; omega)); clear O HB o_ g_ KB; have O := n0_; have HB := n1_; have KB := kb_; clear n0_ n1_ kb_) | ((with_reducible refine gate_op (u := .insert 87 (.tmp 13) (.const (.int .u16 3)) (.func 62)) rfl ?_); refine ev_insert _ rfl _ _ _ 87 rfl 24 45 lawk Try.underlying87 RV (w.heap.size + 1) 1 _ rfl O.out (by unfold maxLen; omega) _ (.func (.func 62) #[] #[]) _ rfl rfl (keyOf_int_mk Try.underlying24 (by decide)) _ [] RV_3 ?_; intro x1 o_ g_; have kb_ := Aside0.mk (blk_grown KB.out g_ (fun e => by injection e with e; omega)); have n0_ := Aside0.mk o_; have n1_ := Aside0.mk (HB.out.grown g_ HB.out.size (fun j hj => by cases hj; omega)); clear O HB o_ g_ KB; have O := n0_; have HB := n1_; have KB := kb_; clear n0_ n1_ kb_))
  have lk : (Instr.lookup 87 (.map (some (w.heap.size + 1))) (.int .u16 s) true).run Try.prog x1 = .ok (.tuple #[.nilFunc, .bool false]) x1 := by
    have h := look_m O.out s (by simp [Lit.wf, IntKind.min, IntKind.max, IntKind.signed, IntKind.bits]; have := HS.out; omega)
    rw [if_neg HN.out.1, if_neg HN.out.2] at h
    exact h
  clear O
  have n0_ := Aside0.mk lk
  clear lk
  have lk := n0_.out
  clear n0_
  go_upto_region 9 with (fail)
  clear lk hmm
  have kv : x1.cell? ⟨w.heap.size, 0, none⟩ = some (.int .u16 v) := (blk_cell KB.out 0).trans rfl
  go_wp2_with go_in
  go_ret
  exact ⟨by first | rfl | (simp; done), HB.out⟩
theorem may_0_hi {s : Int} (hs : 0 ≤ s ∧ s < 65536) {v : Int} (hv : 0 ≤ v ∧ v < 65536) (h1 : 18 < s) (w : World) :
    Calls Try.prog 43 #[.int .i64 0, .int .u16 s, .int .u16 v] w fun en w' => en = .returned (.bool (v == 0)) ∧ Below w.heap.size w w' := by
  have HS := Aside0.mk hs
  have HV := Aside0.mk hv
  clear hs hv
  have e2 : (s == 2) = false := beq_eq_false_iff_ne.2 (by omega)
  have e11 : decide (s ≥ 11) = true := decide_eq_true (by omega)
  have e18 : decide (s ≤ 18) = false := decide_eq_false (by omega)
  have e11b : decide (11 ≤ s) = true := e11
  have HN := Aside0.mk (show s ≠ 1 ∧ s ≠ 3 by omega)
  clear h1
  have hmm := @run_makeMap Try.prog
  have hmf : ∀ (fn : Fn) (first cap : Array Value) (w : World), (Instr.makeFunc fn first cap).run Try.prog w = .ok (.func fn first cap) w := fun _ _ _ _ => rfl
  go_enter Try.func43, Try.ntmps43
  go_upto_region 2 with (fail)
  clear hmf
  have O : Aside0 (((w.alloc (.cells #[.int .u16 v] 24 (0, 0))).alloc (.map #[] 0)).ownsMap Try.prog 24 RV (w.heap.size + 1) 0 D0) := ⟨by have h := World.ownsMap_made (P := Try.prog) (k := 24) (R := RV) (w.alloc (.cells #[.int .u16 v] 24 (0, 0))); rw [World.size_alloc] at h; exact h⟩
  have HB := Aside0.mk (((Below.refl w.heap.size w).alloc (Nat.le_refl _) (.cells #[.int .u16 v] 24 (0, 0))).alloc (by rw [World.size_alloc]; omega) (.map #[] 0))
  have KB := Aside0.mk (show ((w.alloc (.cells #[.int .u16 v] 24 (0, 0))).alloc (.map #[] 0)).heap[w.heap.size]? = some (.cells #[.int .u16 v] 24 (0, 0)) from blk_below (blk_new w (.cells #[.int .u16 v] 24 (0, 0))) (below_alloc (Below.refl _ _) (.map #[] 0)))
  go_upto_region 3 with (first | ((with_reducible refine gate_op (u := .insert 87 (.tmp 13) (.const (.int .u16 1)) (.func 61)) rfl ?_); refine ev_insert _ rfl _ _ _ 87 rfl 24 45 lawk Try.underlying87 RV (w.heap.size + 1) 0 _ rfl O.out (by unfold maxLen; omega) _ (.func (.func 61) #[] #[]) _ rfl rfl (keyOf_int_mk Try.underlying24 (by decide)) _ [] RV_2 ?_; intro x0 o_ g_; have kb_ := Aside0.mk (blk_grown KB.out g_ (fun e => by injection e with e; omega)); have n0_ := Aside0.mk o_; have n1_ := Aside0.mk (HB.out.grown g_ HB.out.size (fun j hj => by cases hj; omega)); clear O HB o_ g_ KB; have O := n0_; have HB := n1_; have KB := kb_; clear n0_ n1_ kb_) | ((with_reducible refine gate_op (u := .insert 87 (.tmp 13) (.const (.int .u16 3)) (.func 62)) rfl ?_); refine ev_insert _ rfl _ _ _ 87 rfl 24 45 lawk Try.underlying87 RV (w.heap.size + 1) 1 _ rfl O.out (by unfold maxLen; omega) _ (.func (.func 62) #[] #[]) _ rfl rfl (keyOf_int_mk Try.underlying24 (by decide)) _ [] RV_3 ?_; intro x1 o_ g_; have kb_ := Aside0.mk (blk_grown KB.out g_ (fun e => by injection e with e; omega)); have n0_ := Aside0.mk o_; have n1_ := Aside0.mk (HB.out.grown g_ HB.out.size (fun j hj => by cases hj; omega)); clear O HB o_ g_ KB; have O := n0_; have HB := n1_; have KB := kb_; clear n0_ n1_ kb_))
  have lk : (Instr.lookup 87 (.map (some (w.heap.size + 1))) (.int .u16 s) true).run Try.prog x1 = .ok (.tuple #[.nilFunc, .bool false]) x1 := by
    have h := look_m O.out s (by simp [Lit.wf, IntKind.min, IntKind.max, IntKind.signed, IntKind.bits]; have := HS.out; omega)
    rw [if_neg HN.out.1, if_neg HN.out.2] at h
    exact h
  clear O
  have n0_ := Aside0.mk lk
  clear lk
  have lk := n0_.out
  clear n0_
  go_upto_region 9 with (fail)
  clear lk hmm
  have kv : x1.cell? ⟨w.heap.size, 0, none⟩ = some (.int .u16 v) := (blk_cell KB.out 0).trans rfl
  go_wp2_with go_in
  go_ret
  exact ⟨by first | rfl | (simp; done), HB.out⟩
theorem may_1_1  {v : Int} (hv : 0 ≤ v ∧ v < 65536) (w : World) :
    Calls Try.prog 43 #[.int .i64 1, .int .u16 1, .int .u16 v] w fun en w' => en = .returned (.bool (v == 0 || v == 65280)) ∧ Below w.heap.size w w' := by
  have HV := Aside0.mk hv
  clear hv
  have hmm := @run_makeMap Try.prog
  have hmf : ∀ (fn : Fn) (first cap : Array Value) (w : World), (Instr.makeFunc fn first cap).run Try.prog w = .ok (.func fn first cap) w := fun _ _ _ _ => rfl
  go_enter Try.func43, Try.ntmps43
  go_upto_region 2 with (fail)
  clear hmf
  have O : Aside0 (((w.alloc (.cells #[.int .u16 v] 24 (0, 0))).alloc (.map #[] 0)).ownsMap Try.prog 24 RV (w.heap.size + 1) 0 D0) := ⟨by have h := World.ownsMap_made (P := Try.prog) (k := 24) (R := RV) (w.alloc (.cells #[.int .u16 v] 24 (0, 0))); rw [World.size_alloc] at h; exact h⟩
  have HB := Aside0.mk (((Below.refl w.heap.size w).alloc (Nat.le_refl _) (.cells #[.int .u16 v] 24 (0, 0))).alloc (by rw [World.size_alloc]; omega) (.map #[] 0))
  have KB := Aside0.mk (show ((w.alloc (.cells #[.int .u16 v] 24 (0, 0))).alloc (.map #[] 0)).heap[w.heap.size]? = some (.cells #[.int .u16 v] 24 (0, 0)) from blk_below (blk_new w (.cells #[.int .u16 v] 24 (0, 0))) (below_alloc (Below.refl _ _) (.map #[] 0)))
  go_upto_region 3 with (first | ((with_reducible refine gate_op (u := .insert 87 (.tmp 13) (.const (.int .u16 1)) (.func 61)) rfl ?_); refine ev_insert _ rfl _ _ _ 87 rfl 24 45 lawk Try.underlying87 RV (w.heap.size + 1) 0 _ rfl O.out (by unfold maxLen; omega) _ (.func (.func 61) #[] #[]) _ rfl rfl (keyOf_int_mk Try.underlying24 (by decide)) _ [] RV_2 ?_; intro x0 o_ g_; have kb_ := Aside0.mk (blk_grown KB.out g_ (fun e => by injection e with e; omega)); have n0_ := Aside0.mk o_; have n1_ := Aside0.mk (HB.out.grown g_ HB.out.size (fun j hj => by cases hj; omega)); clear O HB o_ g_ KB; have O := n0_; have HB := n1_; have KB := kb_; clear n0_ n1_ kb_) | ((with_reducible refine gate_op (u := .insert 87 (.tmp 13) (.const (.int .u16 3)) (.func 62)) rfl ?_); refine ev_insert _ rfl _ _ _ 87 rfl 24 45 lawk Try.underlying87 RV (w.heap.size + 1) 1 _ rfl O.out (by unfold maxLen; omega) _ (.func (.func 62) #[] #[]) _ rfl rfl (keyOf_int_mk Try.underlying24 (by decide)) _ [] RV_3 ?_; intro x1 o_ g_; have kb_ := Aside0.mk (blk_grown KB.out g_ (fun e => by injection e with e; omega)); have n0_ := Aside0.mk o_; have n1_ := Aside0.mk (HB.out.grown g_ HB.out.size (fun j hj => by cases hj; omega)); clear O HB o_ g_ KB; have O := n0_; have HB := n1_; have KB := kb_; clear n0_ n1_ kb_))
  have lk : (Instr.lookup 87 (.map (some (w.heap.size + 1))) (.int .u16 1) true).run Try.prog x1 = .ok (.tuple #[(.func (.func 61) #[] #[]), .bool true]) x1 := by
    have h := look_m O.out 1 (by decide)
    exact h
  clear O
  have n0_ := Aside0.mk lk
  clear lk
  have lk := n0_.out
  clear n0_
  go_upto_region 9 with (fail)
  clear lk hmm
  have kv : x1.cell? ⟨w.heap.size, 0, none⟩ = some (.int .u16 v) := (blk_cell KB.out 0).trans rfl
  cases hz_ : (v == 0) with
  | true =>
    go_wp2_with go_in
    go_ret
    exact ⟨by first | rfl | (rw [hz_]; rfl) | (simp [hz_]; done), HB.out⟩
  | false =>
    go_wp2_with go_in
    go_ret
    exact ⟨by rw [hz_]; first | rfl | (simp [hz_]; done), HB.out⟩
theorem may_1_2  {v : Int} (hv : 0 ≤ v ∧ v < 65536) (w : World) :
    Calls Try.prog 43 #[.int .i64 1, .int .u16 2, .int .u16 v] w fun en w' => en = .returned (.bool (true)) ∧ Below w.heap.size w w' := by
  have HV := Aside0.mk hv
  clear hv
  have hmm := @run_makeMap Try.prog
  have hmf : ∀ (fn : Fn) (first cap : Array Value) (w : World), (Instr.makeFunc fn first cap).run Try.prog w = .ok (.func fn first cap) w := fun _ _ _ _ => rfl
  go_enter Try.func43, Try.ntmps43
  go_upto_region 2 with (fail)
  clear hmf
  have O : Aside0 (((w.alloc (.cells #[.int .u16 v] 24 (0, 0))).alloc (.map #[] 0)).ownsMap Try.prog 24 RV (w.heap.size + 1) 0 D0) := ⟨by have h := World.ownsMap_made (P := Try.prog) (k := 24) (R := RV) (w.alloc (.cells #[.int .u16 v] 24 (0, 0))); rw [World.size_alloc] at h; exact h⟩
  have HB := Aside0.mk (((Below.refl w.heap.size w).alloc (Nat.le_refl _) (.cells #[.int .u16 v] 24 (0, 0))).alloc (by rw [World.size_alloc]; omega) (.map #[] 0))
  have KB := Aside0.mk (show ((w.alloc (.cells #[.int .u16 v] 24 (0, 0))).alloc (.map #[] 0)).heap[w.heap.size]? = some (.cells #[.int .u16 v] 24 (0, 0)) from blk_below (blk_new w (.cells #[.int .u16 v] 24 (0, 0))) (below_alloc (Below.refl _ _) (.map #[] 0)))
  go_upto_region 3 with (first | ((with_reducible refine gate_op (u := .insert 87 (.tmp 13) (.const (.int .u16 1)) (.func 61)) rfl ?_); refine ev_insert _ rfl _ _ _ 87 rfl 24 45 lawk Try.underlying87 RV (w.heap.size + 1) 0 _ rfl O.out (by unfold maxLen; omega) _ (.func (.func 61) #[] #[]) _ rfl rfl (keyOf_int_mk Try.underlying24 (by decide)) _ [] RV_2 ?_; intro x0 o_ g_; have kb_ := Aside0.mk (blk_grown KB.out g_ (fun e => by injection e with e; omega)); have n0_ := Aside0.mk o_; have n1_ := Aside0.mk (HB.out.grown g_ HB.out.size (fun j hj => by cases hj; omega)); clear O HB o_ g_ KB; have O := n0_; have HB := n1_; have KB := kb_; clear n0_ n1_ kb_) | ((with_reducible refine gate_op (u := .insert 87 (.tmp 13) (.const (.int .u16 3)) (.func 62)) rfl ?_); refine ev_insert _ rfl _ _ _ 87 rfl 24 45 lawk Try.underlying87 RV (w.heap.size + 1) 1 _ rfl O.out (by unfold maxLen; omega) _ (.func (.func 62) #[] #[]) _ rfl rfl (keyOf_int_mk Try.underlying24 (by decide)) _ [] RV_3 ?_; intro x1 o_ g_; have kb_ := Aside0.mk (blk_grown KB.out g_ (fun e => by injection e with e; omega)); have n0_ := Aside0.mk o_; have n1_ := Aside0.mk (HB.out.grown g_ HB.out.size (fun j hj => by cases hj; omega)); clear O HB o_ g_ KB; have O := n0_; have HB := n1_; have KB := kb_; clear n0_ n1_ kb_))
  clear O KB
  go_wp2
  go_ret
  exact ⟨rfl, HB.out⟩
theorem may_1_3  {v : Int} (hv : 0 ≤ v ∧ v < 65536) (w : World) :
    Calls Try.prog 43 #[.int .i64 1, .int .u16 3, .int .u16 v] w fun en w' => en = .returned (.bool (v % 256 == 0)) ∧ Below w.heap.size w w' := by
  have HV := Aside0.mk hv
  clear hv
  have hmm := @run_makeMap Try.prog
  have hmf : ∀ (fn : Fn) (first cap : Array Value) (w : World), (Instr.makeFunc fn first cap).run Try.prog w = .ok (.func fn first cap) w := fun _ _ _ _ => rfl
  go_enter Try.func43, Try.ntmps43
  go_upto_region 2 with (fail)
  clear hmf
  have O : Aside0 (((w.alloc (.cells #[.int .u16 v] 24 (0, 0))).alloc (.map #[] 0)).ownsMap Try.prog 24 RV (w.heap.size + 1) 0 D0) := ⟨by have h := World.ownsMap_made (P := Try.prog) (k := 24) (R := RV) (w.alloc (.cells #[.int .u16 v] 24 (0, 0))); rw [World.size_alloc] at h; exact h⟩
  have HB := Aside0.mk (((Below.refl w.heap.size w).alloc (Nat.le_refl _) (.cells #[.int .u16 v] 24 (0, 0))).alloc (by rw [World.size_alloc]; omega) (.map #[] 0))
  have KB := Aside0.mk (show ((w.alloc (.cells #[.int .u16 v] 24 (0, 0))).alloc (.map #[] 0)).heap[w.heap.size]? = some (.cells #[.int .u16 v] 24 (0, 0)) from blk_below (blk_new w (.cells #[.int .u16 v] 24 (0, 0))) (below_alloc (Below.refl _ _) (.map #[] 0)))
  go_upto_region 3 with (first | ((with_reducible refine gate_op (u := .insert 87 (.tmp 13) (.const (.int .u16 1)) (.func 61)) rfl ?_); refine ev_insert _ rfl _ _ _ 87 rfl 24 45 lawk Try.underlying87 RV (w.heap.size + 1) 0 _ rfl O.out (by unfold maxLen; omega) _ (.func (.func 61) #[] #[]) _ rfl rfl (keyOf_int_mk Try.underlying24 (by decide)) _ [] RV_2 ?_; intro x0 o_ g_; have kb_ := Aside0.mk (blk_grown KB.out g_ (fun e => by injection e with e; omega)); have n0_ := Aside0.mk o_; have n1_ := Aside0.mk (HB.out.grown g_ HB.out.size (fun j hj => by cases hj; omega)); clear O HB o_ g_ KB; have O := n0_; have HB := n1_; have KB := kb_; clear n0_ n1_ kb_) | ((with_reducible refine gate_op (u := .insert 87 (.tmp 13) (.const (.int .u16 3)) (.func 62)) rfl ?_); refine ev_insert _ rfl _ _ _ 87 rfl 24 45 lawk Try.underlying87 RV (w.heap.size + 1) 1 _ rfl O.out (by unfold maxLen; omega) _ (.func (.func 62) #[] #[]) _ rfl rfl (keyOf_int_mk Try.underlying24 (by decide)) _ [] RV_3 ?_; intro x1 o_ g_; have kb_ := Aside0.mk (blk_grown KB.out g_ (fun e => by injection e with e; omega)); have n0_ := Aside0.mk o_; have n1_ := Aside0.mk (HB.out.grown g_ HB.out.size (fun j hj => by cases hj; omega)); clear O HB o_ g_ KB; have O := n0_; have HB := n1_; have KB := kb_; clear n0_ n1_ kb_))
  have lk : (Instr.lookup 87 (.map (some (w.heap.size + 1))) (.int .u16 3) true).run Try.prog x1 = .ok (.tuple #[(.func (.func 62) #[] #[]), .bool true]) x1 := by
    have h := look_m O.out 3 (by decide)
    exact h
  clear O
  have n0_ := Aside0.mk lk
  clear lk
  have lk := n0_.out
  clear n0_
  go_upto_region 9 with (fail)
  clear lk hmm
  have kv : x1.cell? ⟨w.heap.size, 0, none⟩ = some (.int .u16 v) := (blk_cell KB.out 0).trans rfl
  go_wp2_with go_in
  go_ret
  exact ⟨by rw [← and255 HV.out]; first | rfl | (simp; done), HB.out⟩
theorem may_1_mid {s : Int} (hs : 0 ≤ s ∧ s < 65536) {v : Int} (hv : 0 ≤ v ∧ v < 65536) (h1 : 11 ≤ s) (h2 : s ≤ 18) (w : World) :
    Calls Try.prog 43 #[.int .i64 1, .int .u16 s, .int .u16 v] w fun en w' => en = .returned (.bool (true)) ∧ Below w.heap.size w w' := by
  have HS := Aside0.mk hs
  have HV := Aside0.mk hv
  clear hs hv
  have e2 : (s == 2) = false := beq_eq_false_iff_ne.2 (by omega)
  have e11 : decide (s ≥ 11) = true := decide_eq_true (by omega)
  have e18 : decide (s ≤ 18) = true := decide_eq_true (by omega)
  have e11b : decide (11 ≤ s) = true := e11
  have HN := Aside0.mk (show s ≠ 1 ∧ s ≠ 3 by omega)
  clear h1 h2
  have hmm := @run_makeMap Try.prog
  have hmf : ∀ (fn : Fn) (first cap : Array Value) (w : World), (Instr.makeFunc fn first cap).run Try.prog w = .ok (.func fn first cap) w := fun _ _ _ _ => rfl
  go_enter Try.func43, Try.ntmps43
  go_upto_region 2 with (fail)
  clear hmf
  have O : Aside0 (((w.alloc (.cells #[.int .u16 v] 24 (0, 0))).alloc (.map #[] 0)).ownsMap Try.prog 24 RV (w.heap.size + 1) 0 D0) := ⟨by have h := World.ownsMap_made (P := Try.prog) (k := 24) (R := RV) (w.alloc (.cells #[.int .u16 v] 24 (0, 0))); rw [World.size_alloc] at h; exact h⟩
  have HB := Aside0.mk (((Below.refl w.heap.size w).alloc (Nat.le_refl _) (.cells #[.int .u16 v] 24 (0, 0))).alloc (by rw [World.size_alloc]; omega) (.map #[] 0))
  have KB := Aside0.mk (show ((w.alloc (.cells #[.int .u16 v] 24 (0, 0))).alloc (.map #[] 0)).heap[w.heap.size]? = some (.cells #[.int .u16 v] 24 (0, 0)) from blk_below (blk_new w (.cells #[.int .u16 v] 24 (0, 0))) (below_alloc (Below.refl _ _) (.map #[] 0)))
  go_upto_region 3 with (first | ((with_reducible refine gate_op (u := .insert 87 (.tmp 13) (.const (.int .u16 1)) (.func 61)) rfl ?_); refine ev_insert _ rfl _ _ _ 87 rfl 24 45 lawk Try.underlying87 RV (w.heap.size + 1) 0 _ rfl O.out (by unfold maxLen; omega) _ (.func (.func 61) #[] #[]) _ rfl rfl (keyOf_int_mk Try.underlying24 (by decide)) _ [] RV_2 ?_; intro x0 o_ g_; have kb_ := Aside0.mk (blk_grown KB.out g_ (fun e => by injection e with e; omega)); have n0_ := Aside0.mk o_; have n1_ := Aside0.mk (HB.out.grown g_ HB.out.size (fun j hj => by cases hj; omega)); clear O HB o_ g_ KB; have O := n0_; have HB := n1_; have KB := kb_; clear n0_ n1_ kb_) | ((with_reducible refine gate_op (u := .insert 87 (.tmp 13) (.const (.int .u16 3)) (.func 62)) rfl ?_); refine ev_insert _ rfl _ _ _ 87 rfl 24 45 lawk Try.underlying87 RV (w.heap.size + 1) 1 _ rfl O.out (by unfold maxLen; omega) _ (.func (.func 62) #[] #[]) _ rfl rfl (keyOf_int_mk Try.underlying24 (by decide)) _ [] RV_3 ?_; intro x1 o_ g_; have kb_ := Aside0.mk (blk_grown KB.out g_ (fun e => by injection e with e; omega)); have n0_ := Aside0.mk o_; have n1_ := Aside0.mk (HB.out.grown g_ HB.out.size (fun j hj => by cases hj; omega)); clear O HB o_ g_ KB; have O := n0_; have HB := n1_; have KB := kb_; clear n0_ n1_ kb_))
  clear O KB
  go_wp2
  go_ret
  exact ⟨rfl, HB.out⟩
theorem may_1_lo {s : Int} (hs : 0 ≤ s ∧ s < 65536) {v : Int} (hv : 0 ≤ v ∧ v < 65536) (h1 : s < 11) (h2 : s ≠ 1) (h3 : s ≠ 2) (h4 : s ≠ 3) (w : World) :
    Calls Try.prog 43 #[.int .i64 1, .int .u16 s, .int .u16 v] w fun en w' => en = .returned (.bool (v == 0)) ∧ Below w.heap.size w w' := by
  have HS := Aside0.mk hs
  have HV := Aside0.mk hv
  clear hs hv
  have e2 : (s == 2) = false := beq_eq_false_iff_ne.2 (by omega)
  have e11 : decide (s ≥ 11) = false := decide_eq_false (by omega)
  have e11b : decide (11 ≤ s) = false := e11
  have HN := Aside0.mk (show s ≠ 1 ∧ s ≠ 3 by omega)
  clear h1 h2 h3 h4
  have hmm := @run_makeMap Try.prog
  have hmf : ∀ (fn : Fn) (first cap : Array Value) (w : World), (Instr.makeFunc fn first cap).run Try.prog w = .ok (.func fn first cap) w := fun _ _ _ _ => rfl
  go_enter Try.func43, Try.ntmps43
  go_upto_region 2 with (fail)
  clear hmf
  have O : Aside0 (((w.alloc (.cells #[.int .u16 v] 24 (0, 0))).alloc (.map #[] 0)).ownsMap Try.prog 24 RV (w.heap.size + 1) 0 D0) := ⟨by have h := World.ownsMap_made (P := Try.prog) (k := 24) (R := RV) (w.alloc (.cells #[.int .u16 v] 24 (0, 0))); rw [World.size_alloc] at h; exact h⟩
  have HB := Aside0.mk (((Below.refl w.heap.size w).alloc (Nat.le_refl _) (.cells #[.int .u16 v] 24 (0, 0))).alloc (by rw [World.size_alloc]; omega) (.map #[] 0))
  have KB := Aside0.mk (show ((w.alloc (.cells #[.int .u16 v] 24 (0, 0))).alloc (.map #[] 0)).heap[w.heap.size]? = some (.cells #[.int .u16 v] 24 (0, 0)) from blk_below (blk_new w (.cells #[.int .u16 v] 24 (0, 0))) (below_alloc (Below.refl _ _) (.map #[] 0)))
  go_upto_region 3 with (first | ((with_reducible refine gate_op (u := .insert 87 (.tmp 13) (.const (.int .u16 1)) (.func 61)) rfl ?_); refine ev_insert _ rfl _ _ _ 87 rfl 24 45 lawk Try.underlying87 RV (w.heap.size + 1) 0 _ rfl O.out (by unfold maxLen; omega) _ (.func (.func 61) #[] #[]) _ rfl rfl (keyOf_int_mk Try.underlying24 (by decide)) _ [] RV_2 ?_; intro x0 o_ g_; have kb_ := Aside0.mk (blk_grown KB.out g_ (fun e => by injection e with e; omega)); have n0_ := Aside0.mk o_; have n1_ := Aside0.mk (HB.out.grown g_ HB.out.size (fun j hj => by cases hj; omega)); clear O HB o_ g_ KB; have O := n0_; have HB := n1_; have KB := kb_; clear n0_ n1_ kb_) | ((with_reducible refine gate_op (u := .insert 87 (.tmp 13) (.const (.int .u16 3)) (.func 62)) rfl ?_); refine ev_insert _ rfl _ _ _ 87 rfl 24 45 lawk Try.underlying87 RV (w.heap.size + 1) 1 _ rfl O.out (by unfold maxLen; omega) _ (.func (.func 62) #[] #[]) _ rfl rfl (keyOf_int_mk Try.underlying24 (by decide)) _ [] RV_3 ?_; intro x1 o_ g_; have kb_ := Aside0.mk (blk_grown KB.out g_ (fun e => by injection e with e; omega)); have n0_ := Aside0.mk o_; have n1_ := Aside0.mk (HB.out.grown g_ HB.out.size (fun j hj => by cases hj; omega)); clear O HB o_ g_ KB; have O := n0_; have HB := n1_; have KB := kb_; clear n0_ n1_ kb_))
  have lk : (Instr.lookup 87 (.map (some (w.heap.size + 1))) (.int .u16 s) true).run Try.prog x1 = .ok (.tuple #[.nilFunc, .bool false]) x1 := by
    have h := look_m O.out s (by simp [Lit.wf, IntKind.min, IntKind.max, IntKind.signed, IntKind.bits]; have := HS.out; omega)
    rw [if_neg HN.out.1, if_neg HN.out.2] at h
    exact h
  clear O
  have n0_ := Aside0.mk lk
  clear lk
  have lk := n0_.out
  clear n0_
  go_upto_region 9 with (fail)
  clear lk hmm
  have kv : x1.cell? ⟨w.heap.size, 0, none⟩ = some (.int .u16 v) := (blk_cell KB.out 0).trans rfl
  go_wp2_with go_in
  go_ret
  exact ⟨by first | rfl | (simp; done), HB.out⟩
theorem may_1_hi {s : Int} (hs : 0 ≤ s ∧ s < 65536) {v : Int} (hv : 0 ≤ v ∧ v < 65536) (h1 : 18 < s) (w : World) :
    Calls Try.prog 43 #[.int .i64 1, .int .u16 s, .int .u16 v] w fun en w' => en = .returned (.bool (v == 0)) ∧ Below w.heap.size w w' := by
  have HS := Aside0.mk hs
  have HV := Aside0.mk hv
  clear hs hv
  have e2 : (s == 2) = false := beq_eq_false_iff_ne.2 (by omega)
  have e11 : decide (s ≥ 11) = true := decide_eq_true (by omega)
  have e18 : decide (s ≤ 18) = false := decide_eq_false (by omega)
  have e11b : decide (11 ≤ s) = true := e11
  have HN := Aside0.mk (show s ≠ 1 ∧ s ≠ 3 by omega)
  clear h1
  have hmm := @run_makeMap Try.prog
  have hmf : ∀ (fn : Fn) (first cap : Array Value) (w : World), (Instr.makeFunc fn first cap).run Try.prog w = .ok (.func fn first cap) w := fun _ _ _ _ => rfl
  go_enter Try.func43, Try.ntmps43
  go_upto_region 2 with (fail)
  clear hmf
  have O : Aside0 (((w.alloc (.cells #[.int .u16 v] 24 (0, 0))).alloc (.map #[] 0)).ownsMap Try.prog 24 RV (w.heap.size + 1) 0 D0) := ⟨by have h := World.ownsMap_made (P := Try.prog) (k := 24) (R := RV) (w.alloc (.cells #[.int .u16 v] 24 (0, 0))); rw [World.size_alloc] at h; exact h⟩
  have HB := Aside0.mk (((Below.refl w.heap.size w).alloc (Nat.le_refl _) (.cells #[.int .u16 v] 24 (0, 0))).alloc (by rw [World.size_alloc]; omega) (.map #[] 0))
  have KB := Aside0.mk (show ((w.alloc (.cells #[.int .u16 v] 24 (0, 0))).alloc (.map #[] 0)).heap[w.heap.size]? = some (.cells #[.int .u16 v] 24 (0, 0)) from blk_below (blk_new w (.cells #[.int .u16 v] 24 (0, 0))) (below_alloc (Below.refl _ _) (.map #[] 0)))
  go_upto_region 3 with (first | ((with_reducible refine gate_op (u := .insert 87 (.tmp 13) (.const (.int .u16 1)) (.func 61)) rfl ?_); refine ev_insert _ rfl _ _ _ 87 rfl 24 45 lawk Try.underlying87 RV (w.heap.size + 1) 0 _ rfl O.out (by unfold maxLen; omega) _ (.func (.func 61) #[] #[]) _ rfl rfl (keyOf_int_mk Try.underlying24 (by decide)) _ [] RV_2 ?_; intro x0 o_ g_; have kb_ := Aside0.mk (blk_grown KB.out g_ (fun e => by injection e with e; omega)); have n0_ := Aside0.mk o_; have n1_ := Aside0.mk (HB.out.grown g_ HB.out.size (fun j hj => by cases hj; omega)); clear O HB o_ g_ KB; have O := n0_; have HB := n1_; have KB := kb_; clear n0_ n1_ kb_) | ((with_reducible refine gate_op (u := .insert 87 (.tmp 13) (.const (.int .u16 3)) (.func 62)) rfl ?_); refine ev_insert _ rfl _ _ _ 87 rfl 24 45 lawk Try.underlying87 RV (w.heap.size + 1) 1 _ rfl O.out (by unfold maxLen; omega) _ (.func (.func 62) #[] #[]) _ rfl rfl (keyOf_int_mk Try.underlying24 (by decide)) _ [] RV_3 ?_; intro x1 o_ g_; have kb_ := Aside0.mk (blk_grown KB.out g_ (fun e => by injection e with e; omega)); have n0_ := Aside0.mk o_; have n1_ := Aside0.mk (HB.out.grown g_ HB.out.size (fun j hj => by cases hj; omega)); clear O HB o_ g_ KB; have O := n0_; have HB := n1_; have KB := kb_; clear n0_ n1_ kb_))
  have lk : (Instr.lookup 87 (.map (some (w.heap.size + 1))) (.int .u16 s) true).run Try.prog x1 = .ok (.tuple #[.nilFunc, .bool false]) x1 := by
    have h := look_m O.out s (by simp [Lit.wf, IntKind.min, IntKind.max, IntKind.signed, IntKind.bits]; have := HS.out; omega)
    rw [if_neg HN.out.1, if_neg HN.out.2] at h
    exact h
  clear O
  have n0_ := Aside0.mk lk
  clear lk
  have lk := n0_.out
  clear n0_
  go_upto_region 9 with (fail)
  clear lk hmm
  have kv : x1.cell? ⟨w.heap.size, 0, none⟩ = some (.int .u16 v) := (blk_cell KB.out 0).trans rfl
  go_wp2_with go_in
  go_ret
  exact ⟨by first | rfl | (simp; done), HB.out⟩
theorem may_any {d s v : Int} (hd : d = 0 ∨ d = 1) (hs : 0 ≤ s ∧ s < 65536) (hv : 0 ≤ v ∧ v < 65536) (w : World) :
    Calls Try.prog 43 #[.int .i64 d, .int .u16 s, .int .u16 v] w fun en w' => en = .returned (.bool (mayB d s v)) ∧ Below w.heap.size w w' := by
  rcases hd with rfl | rfl
  · by_cases e1 : s = 1
    · subst e1; exact may_0_1 hv w
    by_cases e2 : s = 2
    · subst e2; exact may_0_2 hv w
    by_cases e3 : s = 3
    · subst e3; exact may_0_3 hv w
    by_cases h11 : 11 ≤ s
    · by_cases h18 : s ≤ 18
      · rw [show mayB 0 s v = (v == 0) by unfold mayB; rw [if_neg (fun h => absurd h.2 (by decide)), if_neg e1, if_neg e3]]; exact may_0_mid hs hv h11 h18 w
      · rw [show mayB 0 s v = (v == 0) by unfold mayB; rw [if_neg (by omega), if_neg e1, if_neg e3]]; exact may_0_hi hs hv (by omega) w
    · rw [show mayB 0 s v = (v == 0) by unfold mayB; rw [if_neg (by omega), if_neg e1, if_neg e3]]; exact may_0_lo hs hv (by omega) e1 e2 e3 w
  · by_cases e1 : s = 1
    · subst e1; exact may_1_1 hv w
    by_cases e2 : s = 2
    · subst e2; exact may_1_2 hv w
    by_cases e3 : s = 3
    · subst e3; exact may_1_3 hv w
    by_cases h11 : 11 ≤ s
    · by_cases h18 : s ≤ 18
      · rw [show mayB 1 s v = true from if_pos ⟨.inr ⟨h11, h18⟩, rfl⟩]; exact may_1_mid hs hv h11 h18 w
      · rw [show mayB 1 s v = (v == 0) by unfold mayB; rw [if_neg (by omega), if_neg e1, if_neg e3]]; exact may_1_hi hs hv (by omega) w
    · rw [show mayB 1 s v = (v == 0) by unfold mayB; rw [if_neg (by omega), if_neg e1, if_neg e3]]; exact may_1_lo hs hv (by omega) e1 e2 e3 w
theorem busy_any {w0 w : World} {gr g gm : Nat} {c0 : Cu} {m : Msg} (h : PS.St w0 gr g gm w c0 m) :
    Calls Try.prog 46 #[.pointer (some ⟨g, 0, none⟩)] w fun en w' => en = .returned (.int .u16 (busyR c0).2) ∧ PS.St w0 gr g gm w' (busyR c0).1 m := by
  have HP := Aside0.mk h
  clear h
  go_enter Try.func46, Try.ntmps46
  go_upto_region 2 with (first | (go_at_call 39; obtain ⟨l0, h0⟩ := Cu.wordV_bd (PS.St.good HP.out); (with_reducible refine (PS.St.word HP.out).mono ?_); rintro en x1 ⟨rfl, hp_⟩; obtain ⟨c1, ec_⟩ : ∃ z, z = c0.wordS := ⟨_, rfl⟩; rw [← ec_] at hp_; have Ec1 := Aside0.mk ec_; clear ec_; have n0_ := Aside0.mk hp_; clear HP hp_; have HP := n0_; clear n0_))
  obtain ⟨c2, e_⟩ : ∃ z, z = c1.need (c0.wordV == 0 || c0.wordV == 65535) 6 := ⟨_, rfl⟩
  have Ec2 := Aside0.mk e_
  clear e_
  go_cut [] from 6 to 14 (fun wx => Aside0 (PS.St w0 gr g gm wx c2 (m)))
  case first =>
    cases hs0_ : (c0.wordV == 0) with
    | true =>
      have hs0a_ : (c0.wordV != 0) = false := by first | exact hs0_ | (rw [bne, hs0_]; rfl) | (have := hs0_; rw [bne] at this; simpa using this)
      have eb_ : (c0.wordV == 0 || c0.wordV == 65535) = (true) := by first | (simp only [hs0_]; first | rfl | (simp; done)) | (simp [hs0_]; done) | (simp only [bne, hs0_]; first | rfl | (simp; done))
      have EB_ := Aside0.mk eb_
      clear eb_
      go_wp2_with (first | (go_at_call 40; (with_reducible refine (PS.St.need HP.out (true) 6).mono ?_); rintro en x2 ⟨rfl, hp_⟩; have n0_ := Aside0.mk hp_; clear HP hp_; have HP := n0_; clear n0_))
      go_meet
      rw [Ec2.out, EB_.out]
      exact HP
    | false =>
      have hs0a_ : (c0.wordV != 0) = true := by first | exact hs0_ | (rw [bne, hs0_]; rfl) | (have := hs0_; rw [bne] at this; simpa using this)
      have eb_ : (c0.wordV == 0 || c0.wordV == 65535) = (c0.wordV == 65535) := by first | (simp only [hs0_]; first | rfl | (simp; done)) | (simp [hs0_]; done) | (simp only [bne, hs0_]; first | rfl | (simp; done))
      have EB_ := Aside0.mk eb_
      clear eb_
      go_wp2_with (first | (go_at_call 40; (with_reducible refine (PS.St.need HP.out (c0.wordV == 65535) 6).mono ?_); rintro en x2 ⟨rfl, hp_⟩; have n0_ := Aside0.mk hp_; clear HP hp_; have HP := n0_; clear n0_))
      go_meet
      rw [Ec2.out, EB_.out]
      exact HP
  case rest =>
  clear HP
  have HP := hcut
  clear hcut
  go_wp2
  go_ret
  have eq_ : busyR c0 = (c2, c0.wordV) := by
    rw [Ec2.out, Ec1.out]
    rfl
  rw [eq_]
  exact ⟨rfl, HP.out⟩
theorem busy_bd {c c1 : Cu} {v : Int} (h : c.good) (e : (c1, v) = busyR c) : 0 ≤ v ∧ v < 65536 := by
  have e2 : v = c.wordV := congrArg Prod.snd e
  rw [e2]
  exact Cu.wordV_bd h
theorem answer_7 {w0 w : World} {gr g gm : Nat} {c0 : Cu} {m : Msg} (h : PS.St w0 gr g gm w c0 m) (hk : m.code = 7) :
    Calls Try.prog 22 #[.pointer (some ⟨g, 0, none⟩), .pointer (some ⟨gm, 0, none⟩)] w fun en w' => en = .returned (.tuple #[]) ∧ PS.St w0 gr g gm w' (ansR m c0).1 (ansR m c0).2 := by
  have HP := Aside0.mk h
  have HK := Aside0.mk hk
  clear h
  have b7 : (m.code == 7) = true := beq_iff_eq.2 hk
  have b11 : (m.code == 11) = false := beq_eq_false_iff_ne.2 (by omega)
  have b12 : (m.code == 12) = false := beq_eq_false_iff_ne.2 (by omega)
  have b17 : (m.code == 17) = false := beq_eq_false_iff_ne.2 (by omega)
  clear hk
  obtain ⟨kcode, fcode⟩ := PS.St.at_code HP.out
  go_enter Try.func22, Try.ntmps22
  go_upto_region 2 with (fail)
  have wu : IntKind.u16.wrap c0.byteV = c0.byteV := by
    obtain ⟨l_, h_⟩ := Cu.byteV_bd (PS.St.good HP.out)
    rw [IntKind.wrap_u16]
    omega
  go_wp2_with (first | (go_at_call 45; obtain ⟨l0, h0⟩ := Cu.byteV_bd (PS.St.good HP.out); (with_reducible refine (PS.St.byte HP.out).mono ?_); rintro en x1 ⟨rfl, hp_⟩; obtain ⟨c1, ec_⟩ : ∃ z, z = c0.byteS := ⟨_, rfl⟩; rw [← ec_] at hp_; have Ec1 := Aside0.mk ec_; clear ec_; obtain ⟨kvalue, fvalue⟩ := PS.St.at_value hp_; have n0_ := Aside0.mk hp_; clear HP hp_; have HP := n0_; clear n0_))
  have hp_ := HP.out.put_value ⟨l0, by omega⟩
  have n0_ := Aside0.mk hp_
  clear HP hp_
  have HP := n0_
  clear n0_
  have eq_ : ansR m c0 = (c1, { m with value := c0.byteV }) := by
    unfold ansR
    rw [if_pos HK.out]
    simp only [ansR, eventsR, logsR, nameR, Rd.bind, Rd.byte, Rd.word, Rd.bytes, Rd.words, Rd.need, Rd.ret, leftR, ← Ec1.out]
  rw [eq_]
  exact bodyPost_end (results_none rfl _ _ _) rfl (⟨rfl, HP.out⟩)
theorem answer_11 {w0 w : World} {gr g gm : Nat} {c0 : Cu} {m : Msg} (h : PS.St w0 gr g gm w c0 m) (hk : m.code = 11) :
    Calls Try.prog 22 #[.pointer (some ⟨g, 0, none⟩), .pointer (some ⟨gm, 0, none⟩)] w fun en w' => en = .returned (.tuple #[]) ∧ PS.St w0 gr g gm w' (ansR m c0).1 (ansR m c0).2 := by
  have HP := Aside0.mk h
  have HK := Aside0.mk hk
  have HP0 := HP
  clear h
  have b7 : (m.code == 7) = false := beq_eq_false_iff_ne.2 (by omega)
  have b11 : (m.code == 11) = true := beq_iff_eq.2 hk
  have b12 : (m.code == 12) = false := beq_eq_false_iff_ne.2 (by omega)
  have b17 : (m.code == 17) = false := beq_eq_false_iff_ne.2 (by omega)
  clear hk
  obtain ⟨kcode, fcode⟩ := PS.St.at_code HP.out
  go_enter Try.func22, Try.ntmps22
  go_upto_region 4 with (fail)
  go_upto_region 5 with (first | (go_at_call 46; (with_reducible refine (busy_any HP.out).mono ?_); rintro en x1 ⟨rfl, hp_⟩; obtain ⟨z_, ez_⟩ : ∃ z, z = busyR c0 := ⟨_, rfl⟩; rw [← ez_] at hp_ ⊢; obtain ⟨c1, s1⟩ := z_; have Ezc1 := Aside0.mk ez_; clear ez_; replace hp_ : PS.St w0 gr g gm _ c1 m := hp_; obtain ⟨kstatus, fstatus⟩ := PS.St.at_status hp_; have n0_ := Aside0.mk hp_; clear HP hp_; have HP := n0_; clear n0_))
  obtain ⟨ls, hs⟩ := busy_bd (PS.St.good HP0.out) Ezc1.out
  have hp_ := HP.out.put_status ⟨ls, hs⟩
  have n0_ := Aside0.mk hp_
  clear HP hp_
  have HP := n0_
  clear n0_
  go_wp2_with (first | (go_at_call 39; obtain ⟨l1, h1⟩ := Cu.wordV_bd (PS.St.good HP.out); (with_reducible refine (PS.St.word HP.out).mono ?_); rintro en x2 ⟨rfl, hp_⟩; obtain ⟨c2, ec_⟩ : ∃ z, z = c1.wordS := ⟨_, rfl⟩; rw [← ec_] at hp_; have Ec2 := Aside0.mk ec_; clear ec_; obtain ⟨kevents, fevents⟩ := PS.St.at_events hp_; have n0_ := Aside0.mk hp_; clear HP hp_; have HP := n0_; clear n0_))
  have hp_ := HP.out.put_events ⟨l1, h1⟩
  have n0_ := Aside0.mk hp_
  clear HP hp_
  have HP := n0_
  clear n0_
  have eq_ : ansR m c0 = (c2, { m with status := s1, events := c1.wordV }) := by
    unfold ansR
    rw [if_neg (by have := HK.out; omega)]
    rw [if_pos HK.out]
    simp only [ansR, eventsR, logsR, nameR, Rd.bind, Rd.byte, Rd.word, Rd.bytes, Rd.words, Rd.need, Rd.ret, leftR, ← Ezc1.out, ← Ec2.out]
  rw [eq_]
  exact bodyPost_end (results_none rfl _ _ _) rfl (⟨rfl, HP.out⟩)
theorem answer_12 {w0 w : World} {gr g gm : Nat} {c0 : Cu} {m : Msg} (h : PS.St w0 gr g gm w c0 m) (hk : m.code = 12) :
    Calls Try.prog 22 #[.pointer (some ⟨g, 0, none⟩), .pointer (some ⟨gm, 0, none⟩)] w fun en w' => en = .returned (.tuple #[]) ∧ PS.St w0 gr g gm w' (ansR m c0).1 (ansR m c0).2 := by
  have HP := Aside0.mk h
  have HK := Aside0.mk hk
  clear h
  have b7 : (m.code == 7) = false := beq_eq_false_iff_ne.2 (by omega)
  have b11 : (m.code == 11) = false := beq_eq_false_iff_ne.2 (by omega)
  have b12 : (m.code == 12) = true := beq_iff_eq.2 hk
  have b17 : (m.code == 17) = false := beq_eq_false_iff_ne.2 (by omega)
  clear hk
  obtain ⟨kcode, fcode⟩ := PS.St.at_code HP.out
  go_enter Try.func22, Try.ntmps22
  go_upto_region 7 with (fail)
  go_upto_region 8 with (first | (go_at_call 45; obtain ⟨l0, h0⟩ := Cu.byteV_bd (PS.St.good HP.out); (with_reducible refine (PS.St.byte HP.out).mono ?_); rintro en x1 ⟨rfl, hp_⟩; obtain ⟨c1, ec_⟩ : ∃ z, z = c0.byteS := ⟨_, rfl⟩; rw [← ec_] at hp_; have Ec1 := Aside0.mk ec_; clear ec_; have n0_ := Aside0.mk hp_; clear HP hp_; have HP := n0_; clear n0_))
  have wk := wrap64_id (x := c0.byteV) (by omega) (by omega)
  have wkb : IntKind.i64.wrap (c0.byteV) = c0.byteV := by rw [i64_w]; exact wk
  have w6 : wrap64 (c0.byteV - 6) = c0.byteV - 6 := wrap64_id (by omega) (by omega)
  obtain ⟨c2, e_⟩ : ∃ z, z = c1.need (decide (6 ≤ c0.byteV) && decide (c0.byteV ≤ 70)) 5 := ⟨_, rfl⟩
  have Ec2 := Aside0.mk e_
  clear e_
  go_cut [] from 35 to 43 (fun wx => Aside0 (PS.St w0 gr g gm wx c2 (m)))
  case first =>
    cases hs0_ : (decide (6 ≤ c0.byteV)) with
    | true =>
      have hs0a_ : (decide (c0.byteV ≥ 6)) = true := by first | exact hs0_ | (rw [bne, hs0_]; rfl) | (have := hs0_; rw [bne] at this; simpa using this)
      have eb_ : (decide (6 ≤ c0.byteV) && decide (c0.byteV ≤ 70)) = (decide (c0.byteV ≤ 70)) := by first | (simp only [hs0_]; first | rfl | (simp; done)) | (simp [hs0_]; done) | (simp only [bne, hs0_]; first | rfl | (simp; done))
      have EB_ := Aside0.mk eb_
      clear eb_
      go_wp2_with (first | (go_at_call 40; (with_reducible refine (PS.St.need HP.out (decide (c0.byteV ≤ 70)) 5).mono ?_); rintro en x2 ⟨rfl, hp_⟩; have n0_ := Aside0.mk hp_; clear HP hp_; have HP := n0_; clear n0_))
      go_meet
      rw [Ec2.out, EB_.out]
      exact HP
    | false =>
      have hs0a_ : (decide (c0.byteV ≥ 6)) = false := by first | exact hs0_ | (rw [bne, hs0_]; rfl) | (have := hs0_; rw [bne] at this; simpa using this)
      have eb_ : (decide (6 ≤ c0.byteV) && decide (c0.byteV ≤ 70)) = (false) := by first | (simp only [hs0_]; first | rfl | (simp; done)) | (simp [hs0_]; done) | (simp only [bne, hs0_]; first | rfl | (simp; done))
      have EB_ := Aside0.mk eb_
      clear eb_
      go_wp2_with (first | (go_at_call 40; (with_reducible refine (PS.St.need HP.out (false) 5).mono ?_); rintro en x2 ⟨rfl, hp_⟩; have n0_ := Aside0.mk hp_; clear HP hp_; have HP := n0_; clear n0_))
      go_meet
      rw [Ec2.out, EB_.out]
      exact HP
  case rest =>
  clear HP
  have HP := hcut
  clear hcut
  have HP0 := HP
  go_upto_region 10 with (first | (go_at_call 46; (with_reducible refine (busy_any HP.out).mono ?_); rintro en x3 ⟨rfl, hp_⟩; obtain ⟨z_, ez_⟩ : ∃ z, z = busyR c2 := ⟨_, rfl⟩; rw [← ez_] at hp_ ⊢; obtain ⟨c3, s3⟩ := z_; have Ezc3 := Aside0.mk ez_; clear ez_; replace hp_ : PS.St w0 gr g gm _ c3 m := hp_; obtain ⟨kstatus, fstatus⟩ := PS.St.at_status hp_; have n0_ := Aside0.mk hp_; clear HP hp_; have HP := n0_; clear n0_))
  obtain ⟨ls, hs⟩ := busy_bd (PS.St.good HP0.out) Ezc3.out
  clear HP0
  have hp_ := HP.out.put_status ⟨ls, hs⟩
  have n0_ := Aside0.mk hp_
  clear HP hp_
  have HP := n0_
  clear n0_
  go_upto_region 11 with (first | (go_at_call 39; have u_ := Ec4; clear u_; obtain ⟨l4, h4⟩ := Cu.wordV_bd (PS.St.good HP.out); (with_reducible refine (PS.St.word HP.out).mono ?_); rintro en x5 ⟨rfl, hp_⟩; obtain ⟨c5, ec_⟩ : ∃ z, z = c4.wordS := ⟨_, rfl⟩; rw [← ec_] at hp_; have Ec5 := Aside0.mk ec_; clear ec_; obtain ⟨kevents, fevents⟩ := PS.St.at_events hp_; obtain ⟨kmessages, fmessages⟩ := PS.St.at_messages hp_; have n0_ := Aside0.mk hp_; clear HP hp_; have HP := n0_; clear n0_) | (go_at_call 39; obtain ⟨l3, h3⟩ := Cu.wordV_bd (PS.St.good HP.out); (with_reducible refine (PS.St.word HP.out).mono ?_); rintro en x4 ⟨rfl, hp_⟩; obtain ⟨c4, ec_⟩ : ∃ z, z = c3.wordS := ⟨_, rfl⟩; rw [← ec_] at hp_; have Ec4 := Aside0.mk ec_; clear ec_; have n0_ := Aside0.mk hp_; clear HP hp_; have HP := n0_; clear n0_))
  have hp_ := (HP.out.put_events ⟨l3, h3⟩).put_messages ⟨l4, h4⟩
  have n0_ := Aside0.mk hp_
  clear HP hp_
  have HP := n0_
  clear n0_
  have HBY := Aside0.mk (Cu.bytes_bytesV (PS.St.good HP.out) (c0.byteV - 6))
  go_wp2_with (first | (go_at_call 47; (with_reducible refine (PS.St.bytes HP.out (c0.byteV - 6)).mono ?_); rintro en x6 ⟨A5, n5, rfl, hz_, hr_, hp_⟩; obtain ⟨c6, ec_⟩ : ∃ z, z = c5.bytesS (c0.byteV - 6) := ⟨_, rfl⟩; rw [← ec_] at hp_; have Ec6 := Aside0.mk ec_; clear ec_; have R5 := Aside0.mk hr_; have R5z := Aside0.mk hz_; clear hr_ hz_; have n0_ := Aside0.mk hp_; clear HP hp_; have HP := n0_; clear n0_; obtain ⟨Ad, nd, kd, fd⟩ := PS.St.at_data HP.out))
  have hp_ := HP.out.put_data R5z.out HBY.out R5.out
  have n0_ := Aside0.mk hp_
  clear HP hp_
  have HP := n0_
  clear n0_
  have eq_ : ansR m c0 = (c6, { m with status := s3, events := c3.wordV, messages := c4.wordV, data := c5.bytesV (c0.byteV - 6) }) := by
    unfold ansR
    rw [if_neg (by have := HK.out; omega)]
    rw [if_neg (by have := HK.out; omega)]
    rw [if_pos HK.out]
    simp only [ansR, eventsR, logsR, nameR, Rd.bind, Rd.byte, Rd.word, Rd.bytes, Rd.words, Rd.need, Rd.ret, leftR, ← Ec1.out, ← Ec2.out, ← Ezc3.out, ← Ec4.out, ← Ec5.out, ← Ec6.out]
  rw [eq_]
  exact bodyPost_end (results_none rfl _ _ _) rfl (⟨rfl, HP.out⟩)
theorem answer_17 {w0 w : World} {gr g gm : Nat} {c0 : Cu} {m : Msg} (h : PS.St w0 gr g gm w c0 m) (hk : m.code = 17) :
    Calls Try.prog 22 #[.pointer (some ⟨g, 0, none⟩), .pointer (some ⟨gm, 0, none⟩)] w fun en w' => en = .returned (.tuple #[]) ∧ PS.St w0 gr g gm w' (ansR m c0).1 (ansR m c0).2 := by
  have HP := Aside0.mk h
  have HK := Aside0.mk hk
  clear h
  have b7 : (m.code == 7) = false := beq_eq_false_iff_ne.2 (by omega)
  have b11 : (m.code == 11) = false := beq_eq_false_iff_ne.2 (by omega)
  have b12 : (m.code == 12) = false := beq_eq_false_iff_ne.2 (by omega)
  have b17 : (m.code == 17) = true := beq_iff_eq.2 hk
  clear hk
  obtain ⟨kcode, fcode⟩ := PS.St.at_code HP.out
  go_enter Try.func22, Try.ntmps22
  go_upto_region 13 with (fail)
  go_upto_region 14 with (first | (go_at_call 45; obtain ⟨l0, h0⟩ := Cu.byteV_bd (PS.St.good HP.out); (with_reducible refine (PS.St.byte HP.out).mono ?_); rintro en x1 ⟨rfl, hp_⟩; obtain ⟨c1, ec_⟩ : ∃ z, z = c0.byteS := ⟨_, rfl⟩; rw [← ec_] at hp_; have Ec1 := Aside0.mk ec_; clear ec_; have n0_ := Aside0.mk hp_; clear HP hp_; have HP := n0_; clear n0_))
  have wk := wrap64_id (x := c0.byteV) (by omega) (by omega)
  have wkb : IntKind.i64.wrap (c0.byteV) = c0.byteV := by rw [i64_w]; exact wk
  obtain ⟨c2, e_⟩ : ∃ z, z = c1.need (decide (1 ≤ c0.byteV) && decide (c0.byteV ≤ 251)) 5 := ⟨_, rfl⟩
  have Ec2 := Aside0.mk e_
  clear e_
  go_cut [] from 70 to 78 (fun wx => Aside0 (PS.St w0 gr g gm wx c2 (m)))
  case first =>
    cases hs0_ : (decide (1 ≤ c0.byteV)) with
    | true =>
      have hs0a_ : (decide (c0.byteV ≥ 1)) = true := by first | exact hs0_ | (rw [bne, hs0_]; rfl) | (have := hs0_; rw [bne] at this; simpa using this)
      have eb_ : (decide (1 ≤ c0.byteV) && decide (c0.byteV ≤ 251)) = (decide (c0.byteV ≤ 251)) := by first | (simp only [hs0_]; first | rfl | (simp; done)) | (simp [hs0_]; done) | (simp only [bne, hs0_]; first | rfl | (simp; done))
      have EB_ := Aside0.mk eb_
      clear eb_
      go_wp2_with (first | (go_at_call 40; (with_reducible refine (PS.St.need HP.out (decide (c0.byteV ≤ 251)) 5).mono ?_); rintro en x2 ⟨rfl, hp_⟩; have n0_ := Aside0.mk hp_; clear HP hp_; have HP := n0_; clear n0_))
      go_meet
      rw [Ec2.out, EB_.out]
      exact HP
    | false =>
      have hs0a_ : (decide (c0.byteV ≥ 1)) = false := by first | exact hs0_ | (rw [bne, hs0_]; rfl) | (have := hs0_; rw [bne] at this; simpa using this)
      have eb_ : (decide (1 ≤ c0.byteV) && decide (c0.byteV ≤ 251)) = (false) := by first | (simp only [hs0_]; first | rfl | (simp; done)) | (simp [hs0_]; done) | (simp only [bne, hs0_]; first | rfl | (simp; done))
      have EB_ := Aside0.mk eb_
      clear eb_
      go_wp2_with (first | (go_at_call 40; (with_reducible refine (PS.St.need HP.out (false) 5).mono ?_); rintro en x2 ⟨rfl, hp_⟩; have n0_ := Aside0.mk hp_; clear HP hp_; have HP := n0_; clear n0_))
      go_meet
      rw [Ec2.out, EB_.out]
      exact HP
  case rest =>
  clear HP
  have HP := hcut
  clear hcut
  have HBY := Aside0.mk (Cu.bytes_bytesV (PS.St.good HP.out) c0.byteV)
  go_wp2_with (first | (go_at_call 47; (with_reducible refine (PS.St.bytes HP.out (c0.byteV)).mono ?_); rintro en x3 ⟨A5, n5, rfl, hz_, hr_, hp_⟩; obtain ⟨c3, ec_⟩ : ∃ z, z = c2.bytesS (c0.byteV) := ⟨_, rfl⟩; rw [← ec_] at hp_; have Ec3 := Aside0.mk ec_; clear ec_; have R5 := Aside0.mk hr_; have R5z := Aside0.mk hz_; clear hr_ hz_; have n0_ := Aside0.mk hp_; clear HP hp_; have HP := n0_; clear n0_; obtain ⟨Ad, nd, kd, fd⟩ := PS.St.at_data HP.out))
  have hp_ := HP.out.put_data R5z.out HBY.out R5.out
  have n0_ := Aside0.mk hp_
  clear HP hp_
  have HP := n0_
  clear n0_
  have eq_ : ansR m c0 = (c3, { m with data := c2.bytesV c0.byteV }) := by
    unfold ansR
    rw [if_neg (by have := HK.out; omega)]
    rw [if_neg (by have := HK.out; omega)]
    rw [if_neg (by have := HK.out; omega)]
    rw [if_pos HK.out]
    simp only [ansR, eventsR, logsR, nameR, Rd.bind, Rd.byte, Rd.word, Rd.bytes, Rd.words, Rd.need, Rd.ret, leftR, ← Ec1.out, ← Ec2.out, ← Ec3.out]
  rw [eq_]
  exact bodyPost_end (results_none rfl _ _ _) rfl (⟨rfl, HP.out⟩)
theorem need_k {w0 w : World} {gr g gm : Nat} {c0 : Cu} {m : Msg} (h : PS.St w0 gr g gm w c0 m) (ok : Bool) (f : Int) : Calls Try.prog 40 #[.pointer (some ⟨g, 0, none⟩), .bool ok, .int .i64 f] w fun en w' => en = .returned (.tuple #[]) ∧ PS.St w0 gr g gm w' (c0.need ok f) m ∧ Kept w w' (fun k => k = g) := by
  obtain ⟨lo, hi, hc, s1, s2⟩ := h.cur
  refine (p_need hc ok f).mono ?_
  rintro en w' ⟨rfl, b1, b2⟩
  exact ⟨rfl, h.upd b2 ⟨lo, hi, b1, s1, s2⟩, b2.kept⟩
def line.T4 : Bool × List (List Nat × List Nat) := (true, [([], []), ([], []), ([1], [1]), ([2], [2]), ([3], [3]), ([4], [4]), ([5], [5]), ([6], [6]), ([7], [7]), ([7], [7]), ([9, 7], [7, 9]), ([10, 7], [7, 10]), ([11, 7], [7, 11]), ([7], [7]), ([13, 7], [7, 13]), ([14, 7], [7, 14]), ([15, 7], [7, 15]), ([16, 7], [7, 16]), ([17, 7], [7, 17]), ([8, 12, 18, 7, 7], [7, 8, 12, 18]), ([7, 19], [7, 19]), ([0, 20, 19], [0, 20])])
def line.B4 : List Nat := [0, 0, 2, 6, 14, 30, 62, 126, 254, 254, 766, 1790, 3838, 254, 8446, 24830, 57598, 123134, 254206, 524286, 1048574, 2097151]
theorem line.tab4 : rtab .any (opsOf Try.f21 4) = line.T4 := by kernel_rfl
theorem line.bits4 : waitsOk line.T4.2 line.B4 = true := by kernel_rfl
theorem line_0_e {w0 w : World} {gr g gm : Nat} {c0 : Cu} {m : Msg} (h : PS.St w0 gr g gm w c0 m) (hz : c0.wordV = 0) :
    Calls Try.prog 21 #[.int .i64 0, .pointer (some ⟨g, 0, none⟩), .pointer (some ⟨gm, 0, none⟩)] w fun en w' => en = .returned (.tuple #[]) ∧ PS.St w0 gr g gm w' (lineR 0 m c0).1 (lineR 0 m c0).2 := by
  have HP := Aside0.mk h
  have HZ := Aside0.mk hz
  clear h hz
  go_enter Try.func21, Try.ntmps21
  go_upto_region 1 with (first | (go_at_call 39; obtain ⟨l0, h0⟩ := Cu.wordV_bd (PS.St.good HP.out); (with_reducible refine (PS.St.word HP.out).mono ?_); rintro en x1 ⟨rfl, hp_⟩; obtain ⟨c1, ec_⟩ : ∃ z, z = c0.wordS := ⟨_, rfl⟩; rw [← ec_] at hp_; have Ec1 := Aside0.mk ec_; clear ec_; obtain ⟨ksub, fsub⟩ := PS.St.at_sub hp_; have n0_ := Aside0.mk hp_; clear HP hp_; have HP := n0_; clear n0_))
  have hp_ := HP.out.put_sub ⟨l0, h0⟩
  have n0_ := Aside0.mk hp_
  clear HP hp_
  have HP := n0_
  clear n0_
  have HWF := Aside0.mk (show (Lit.int .u16 c0.wordV).wf = true from by simp [Lit.wf, IntKind.min, IntKind.max, IntKind.signed, IntKind.bits]; omega)
  obtain ⟨c2, e_⟩ : ∃ z, z = c1.need (subB c0.wordV && ((0 : Int) == 0 || c0.wordV != 4)) 8 := ⟨_, rfl⟩
  have Ec2 := Aside0.mk e_
  clear e_
  obtain ⟨ksub, fsub⟩ := PS.St.at_sub HP.out
  go_cut [] from 12 to 30 (fun wx => Aside0 (PS.St w0 gr g gm wx c2 ({ m with sub := c0.wordV })))
  case first =>
    cases hs0_ : (subB c0.wordV) with
    | true =>
      have eb_ : (subB c0.wordV && ((0 : Int) == 0 || c0.wordV != 4)) = (true) := by first | (simp only [hs0_]; first | rfl | (simp; done)) | (simp [hs0_]; done) | (simp only [bne, hs0_]; first | rfl | (simp; done))
      have EB_ := Aside0.mk eb_
      clear eb_
      go_wp2_with (first | (go_at_call 41; (with_reducible refine (sub_c HWF.out _).mono ?_); rintro en xb ⟨rfl, hb_⟩; have n0_ := Aside0.mk (PS.St.below HP.out hb_); clear HP hb_; have HP := n0_; clear n0_; obtain ⟨ksub, fsub⟩ := PS.St.at_sub HP.out) | (go_at_call 40; (with_reducible refine (PS.St.need HP.out (true) 8).mono ?_); rintro en x2 ⟨rfl, hp_⟩; have n0_ := Aside0.mk hp_; clear HP hp_; have HP := n0_; clear n0_))
      go_meet
      rw [Ec2.out, EB_.out]
      exact HP
    | false =>
      have eb_ : (subB c0.wordV && ((0 : Int) == 0 || c0.wordV != 4)) = (false) := by first | (simp only [hs0_]; first | rfl | (simp; done)) | (simp [hs0_]; done) | (simp only [bne, hs0_]; first | rfl | (simp; done))
      have EB_ := Aside0.mk eb_
      clear eb_
      go_wp2_with (first | (go_at_call 41; (with_reducible refine (sub_c HWF.out _).mono ?_); rintro en xb ⟨rfl, hb_⟩; have n0_ := Aside0.mk (PS.St.below HP.out hb_); clear HP hb_; have HP := n0_; clear n0_; obtain ⟨ksub, fsub⟩ := PS.St.at_sub HP.out) | (go_at_call 40; (with_reducible refine (PS.St.need HP.out (false) 8).mono ?_); rintro en x2 ⟨rfl, hp_⟩; have n0_ := Aside0.mk hp_; clear HP hp_; have HP := n0_; clear n0_))
      go_meet
      rw [Ec2.out, EB_.out]
      exact HP
  case rest =>
  clear HP
  have HP := hcut
  clear hcut
  have hz_ : (c0.wordV != 0) = false := by rw [HZ.out]; rfl
  obtain ⟨ksub, fsub⟩ := PS.St.at_sub HP.out
  go_upto_region 6 with (first | (go_at_call 44; (with_reducible refine (PS.St.left HP.out).mono ?_); rintro en x3 ⟨rfl, hp_⟩; have n0_ := Aside0.mk hp_; clear HP hp_; have HP := n0_; clear n0_))
  clear hz_ ksub fsub
  have wd : Int.tdiv (c2.xs.length : Int) 2 = (c2.xs.length : Int) / 2 := Int.tdiv_eq_ediv_of_nonneg (by omega)
  have wq := wrap64_id (x := (c2.xs.length : Int) / 2) (by omega) (by have := (PS.St.good HP.out).2.1; omega)
  obtain ⟨c3, e_⟩ : ∃ z, z = c2.need ((c2.xs.length : Int) % 2 == 0 && (decide (2 ≤ (c2.xs.length : Int)) && decide ((c2.xs.length : Int) ≤ 250))) 5 := ⟨_, rfl⟩
  have Ec3 := Aside0.mk e_
  clear e_
  go_cut [] from 64 to 77 (fun wx => Aside0 (PS.St w0 gr g gm wx c3 ({ m with sub := c0.wordV })))
  case first =>
    cases hs0_ : ((c2.xs.length : Int) % 2 == 0) with
    | true =>
      have hs0a_ : ((c2.xs.length : Int) % 2 != 0) = false := by first | exact hs0_ | (rw [bne, hs0_]; rfl) | (have := hs0_; rw [bne] at this; simpa using this)
      have hs0t_ : (Int.tmod (c2.xs.length : Int) 2 == 0) = true := by rw [Int.tmod_eq_emod_of_nonneg (by omega)]; exact hs0_
      cases hs1_ : (decide (2 ≤ (c2.xs.length : Int))) with
      | true =>
        have hs1a_ : (decide ((c2.xs.length : Int) ≥ 2)) = true := by first | exact hs1_ | (rw [bne, hs1_]; rfl) | (have := hs1_; rw [bne] at this; simpa using this)
        have eb_ : ((c2.xs.length : Int) % 2 == 0 && (decide (2 ≤ (c2.xs.length : Int)) && decide ((c2.xs.length : Int) ≤ 250))) = (decide ((c2.xs.length : Int) ≤ 250)) := by first | (simp only [hs0_, hs1_]; first | rfl | (simp; done)) | (simp [hs0_, hs1_]; done) | (simp only [bne, hs0_, hs1_]; first | rfl | (simp; done))
        have EB_ := Aside0.mk eb_
        clear eb_
        go_wp2_with (first | (go_at_call 40; (with_reducible refine (PS.St.need HP.out (decide ((c2.xs.length : Int) ≤ 250)) 5).mono ?_); rintro en x4 ⟨rfl, hp_⟩; have n0_ := Aside0.mk hp_; clear HP hp_; have HP := n0_; clear n0_))
        go_meet
        rw [Ec3.out, EB_.out]
        exact HP
      | false =>
        have hs1a_ : (decide ((c2.xs.length : Int) ≥ 2)) = false := by first | exact hs1_ | (rw [bne, hs1_]; rfl) | (have := hs1_; rw [bne] at this; simpa using this)
        have eb_ : ((c2.xs.length : Int) % 2 == 0 && (decide (2 ≤ (c2.xs.length : Int)) && decide ((c2.xs.length : Int) ≤ 250))) = (false) := by first | (simp only [hs0_, hs1_]; first | rfl | (simp; done)) | (simp [hs0_, hs1_]; done) | (simp only [bne, hs0_, hs1_]; first | rfl | (simp; done))
        have EB_ := Aside0.mk eb_
        clear eb_
        go_wp2_with (first | (go_at_call 40; (with_reducible refine (PS.St.need HP.out (false) 5).mono ?_); rintro en x4 ⟨rfl, hp_⟩; have n0_ := Aside0.mk hp_; clear HP hp_; have HP := n0_; clear n0_))
        go_meet
        rw [Ec3.out, EB_.out]
        exact HP
    | false =>
      have hs0a_ : ((c2.xs.length : Int) % 2 != 0) = true := by first | exact hs0_ | (rw [bne, hs0_]; rfl) | (have := hs0_; rw [bne] at this; simpa using this)
      have hs0t_ : (Int.tmod (c2.xs.length : Int) 2 == 0) = false := by rw [Int.tmod_eq_emod_of_nonneg (by omega)]; exact hs0_
      have eb_ : ((c2.xs.length : Int) % 2 == 0 && (decide (2 ≤ (c2.xs.length : Int)) && decide ((c2.xs.length : Int) ≤ 250))) = (false) := by first | (simp only [hs0_]; first | rfl | (simp; done)) | (simp [hs0_]; done) | (simp only [bne, hs0_]; first | rfl | (simp; done))
      have EB_ := Aside0.mk eb_
      clear eb_
      go_wp2_with (first | (go_at_call 40; (with_reducible refine (PS.St.need HP.out (false) 5).mono ?_); rintro en x4 ⟨rfl, hp_⟩; have n0_ := Aside0.mk hp_; clear HP hp_; have HP := n0_; clear n0_))
      go_meet
      rw [Ec3.out, EB_.out]
      exact HP
  case rest =>
  clear HP
  have HP := hcut
  clear hcut
  have HBY := Aside0.mk (Cu.wordsV_bd (PS.St.good HP.out) ((c2.xs.length : Int) / 2))
  go_wp2_with (first | (go_at_call 42; (with_reducible refine (PS.St.words HP.out ((c2.xs.length : Int) / 2)).mono ?_); rintro en x5 ⟨A5, n5, rfl, hz_, hr_, hp_⟩; obtain ⟨c4, ec_⟩ : ∃ z, z = c3.wordsS ((c2.xs.length : Int) / 2) := ⟨_, rfl⟩; rw [← ec_] at hp_; have Ec4 := Aside0.mk ec_; clear ec_; have R5 := Aside0.mk hr_; have R5z := Aside0.mk hz_; clear hr_ hz_; have n0_ := Aside0.mk hp_; clear HP hp_; have HP := n0_; clear n0_; obtain ⟨Aw, nw, kw, fw⟩ := PS.St.at_words HP.out))
  have hp_ := HP.out.put_words R5z.out HBY.out R5.out
  have n0_ := Aside0.mk hp_
  clear HP hp_
  have HP := n0_
  clear n0_
  have eq_ : lineR 0 m c0 = (c4, { m with sub := c0.wordV, words := c3.wordsV ((c2.xs.length : Int) / 2) }) := by
    have e1 : lineR 0 m c0 = echoR { m with sub := c0.wordV } c2 := by
      rw [Ec2.out, Ec1.out]
      show (if c0.wordV = 0 then (_ : Cu → Cu × Msg) else _) _ = _
      rw [if_pos HZ.out]
      rfl
    rw [e1, Ec4.out, Ec3.out]
    rfl
  rw [eq_]
  exact bodyPost_end (results_none rfl _ _ _) rfl (⟨rfl, HP.out⟩)
theorem line_0_1 {w0 w : World} {gr g gm : Nat} {c0 : Cu} {m : Msg} (h : PS.St w0 gr g gm w c0 m) (hz : c0.wordV ≠ 0) (ho : ((c0.wordS.need (subB c0.wordV && ((0 : Int) == 0 || c0.wordV != 4)) 8).wordsV 1).length = 1) :
    Calls Try.prog 21 #[.int .i64 0, .pointer (some ⟨g, 0, none⟩), .pointer (some ⟨gm, 0, none⟩)] w fun en w' => en = .returned (.tuple #[]) ∧ PS.St w0 gr g gm w' (lineR 0 m c0).1 (lineR 0 m c0).2 := by
  have HP := Aside0.mk h
  have HZ := Aside0.mk hz
  clear h hz
  have HO := Aside0.mk ho
  clear ho
  go_enter Try.func21, Try.ntmps21
  go_upto_region 1 with (first | (go_at_call 39; obtain ⟨l0, h0⟩ := Cu.wordV_bd (PS.St.good HP.out); (with_reducible refine (PS.St.word HP.out).mono ?_); rintro en x1 ⟨rfl, hp_⟩; obtain ⟨c1, ec_⟩ : ∃ z, z = c0.wordS := ⟨_, rfl⟩; rw [← ec_] at hp_; have Ec1 := Aside0.mk ec_; clear ec_; obtain ⟨ksub, fsub⟩ := PS.St.at_sub hp_; have n0_ := Aside0.mk hp_; clear HP hp_; have HP := n0_; clear n0_))
  have hp_ := HP.out.put_sub ⟨l0, h0⟩
  have n0_ := Aside0.mk hp_
  clear HP hp_
  have HP := n0_
  clear n0_
  have HWF := Aside0.mk (show (Lit.int .u16 c0.wordV).wf = true from by simp [Lit.wf, IntKind.min, IntKind.max, IntKind.signed, IntKind.bits]; omega)
  obtain ⟨c2, e_⟩ : ∃ z, z = c1.need (subB c0.wordV && ((0 : Int) == 0 || c0.wordV != 4)) 8 := ⟨_, rfl⟩
  have Ec2 := Aside0.mk e_
  clear e_
  obtain ⟨ksub, fsub⟩ := PS.St.at_sub HP.out
  go_cut [] from 12 to 30 (fun wx => Aside0 (PS.St w0 gr g gm wx c2 ({ m with sub := c0.wordV })))
  case first =>
    cases hs0_ : (subB c0.wordV) with
    | true =>
      have eb_ : (subB c0.wordV && ((0 : Int) == 0 || c0.wordV != 4)) = (true) := by first | (simp only [hs0_]; first | rfl | (simp; done)) | (simp [hs0_]; done) | (simp only [bne, hs0_]; first | rfl | (simp; done))
      have EB_ := Aside0.mk eb_
      clear eb_
      go_wp2_with (first | (go_at_call 41; (with_reducible refine (sub_c HWF.out _).mono ?_); rintro en xb ⟨rfl, hb_⟩; have n0_ := Aside0.mk (PS.St.below HP.out hb_); clear HP hb_; have HP := n0_; clear n0_; obtain ⟨ksub, fsub⟩ := PS.St.at_sub HP.out) | (go_at_call 40; (with_reducible refine (PS.St.need HP.out (true) 8).mono ?_); rintro en x2 ⟨rfl, hp_⟩; have n0_ := Aside0.mk hp_; clear HP hp_; have HP := n0_; clear n0_))
      go_meet
      rw [Ec2.out, EB_.out]
      exact HP
    | false =>
      have eb_ : (subB c0.wordV && ((0 : Int) == 0 || c0.wordV != 4)) = (false) := by first | (simp only [hs0_]; first | rfl | (simp; done)) | (simp [hs0_]; done) | (simp only [bne, hs0_]; first | rfl | (simp; done))
      have EB_ := Aside0.mk eb_
      clear eb_
      go_wp2_with (first | (go_at_call 41; (with_reducible refine (sub_c HWF.out _).mono ?_); rintro en xb ⟨rfl, hb_⟩; have n0_ := Aside0.mk (PS.St.below HP.out hb_); clear HP hb_; have HP := n0_; clear n0_; obtain ⟨ksub, fsub⟩ := PS.St.at_sub HP.out) | (go_at_call 40; (with_reducible refine (PS.St.need HP.out (false) 8).mono ?_); rintro en x2 ⟨rfl, hp_⟩; have n0_ := Aside0.mk hp_; clear HP hp_; have HP := n0_; clear n0_))
      go_meet
      rw [Ec2.out, EB_.out]
      exact HP
  case rest =>
  clear HP
  have HP := hcut
  clear hcut
  have hz_ : (c0.wordV != 0) = true := by simpa using HZ.out
  obtain ⟨ksub, fsub⟩ := PS.St.at_sub HP.out
  have HBY := Aside0.mk (Cu.wordsV_bd (PS.St.good HP.out) 1)
  go_upto_region 4 with (first | (go_at_call 42; (with_reducible refine (PS.St.words HP.out (1)).mono ?_); rintro en x3 ⟨A5, n5, rfl, hz_, hr_, hp_⟩; obtain ⟨c3, ec_⟩ : ∃ z, z = c2.wordsS (1) := ⟨_, rfl⟩; rw [← ec_] at hp_; have Ec3 := Aside0.mk ec_; clear ec_; have R5 := Aside0.mk hr_; have R5z := Aside0.mk hz_; clear hr_ hz_; have n0_ := Aside0.mk hp_; clear HP hp_; have HP := n0_; clear n0_; obtain ⟨Aw, nw, kw, fw⟩ := PS.St.at_words HP.out))
  clear hz_
  have HE := Aside0.mk (show c0.wordS.need (subB c0.wordV && ((0 : Int) == 0 || c0.wordV != 4)) 8 = c2 by rw [Ec2.out, Ec1.out])
  obtain ⟨v, hv⟩ : ∃ v, c2.wordsV 1 = [v] := by have := HO.out; rw [HE.out] at this; exact List.length_eq_one_iff.1 this
  have hvb := HBY.out v (by rw [hv]; simp)
  rw [hv] at R5 R5z HBY ⊢
  have HV := Aside0.mk hv
  clear hv
  obtain ⟨ad, rfl, hx⟩ := Kd.at_int (R5.out _ (Kept.refl _ _)) (0 : Int) (by simp) (by simp)
  have KW := Aside0.mk (show (World.setCell x3 ⟨gm, 12, none⟩ (.slice (some ad) 1 n5)).cell? ⟨gm, 12, none⟩ = some (.slice (some ad) 1 n5) from World.cell?_setCell_same _ _ _ (by rw [kw]))
  have HK := Aside0.mk (show Kept x3 (World.setCell x3 ⟨gm, 12, none⟩ (.slice (some ad) 1 n5)) (fun k => k = g ∨ k = gm ∨ k = gr) from (Kept.refl _ _).setCell (p := ⟨gm, 12, none⟩) (.inl (.inr (.inl rfl))) _)
  have HX := Aside0.mk (show ∀ W', Kept x3 W' (fun k => k = g ∨ k = gm ∨ k = gr) → W'.cell? ad = some (.int .u16 v) from fun W' hk => by
    obtain ⟨ad2, e2, hx2⟩ := Kd.at_int (R5.out W' hk) (0 : Int) (by simp) (by simp)
    injection e2 with e2
    rw [← e2] at hx2
    simpa [Addr.add, rd] using hx2)
  have hp_ := HP.out.put_words R5z.out HBY.out R5.out
  have n0_ := Aside0.mk hp_
  clear HP hp_
  have HP := n0_
  clear n0_
  clear hx
  have n0_ := Aside0.mk (((below_drew (Below.refl _ _)).cell (World.block_lt_of_cell? _ _ KW.out)).trans KW.out)
  clear KW
  have KW := n0_
  clear n0_
  have n0_ := Aside0.mk (HK.out.below (below_drew (Below.refl _ _)))
  clear HK
  have HK := n0_
  clear n0_
  have n0_ := Aside0.mk (PS.St.below HP.out (below_drew (Below.refl _ _)))
  clear HP
  have HP := n0_
  clear n0_
  have EB := Aside0.mk (show ((c2.wordsV 1).length == 1 && mayB 0 c0.wordV ((c2.wordsV 1).headD 0)) = (mayB 0 c0.wordV v) from by rw [HV.out]; rfl)
  refine start_ (n := 22) (S := fun w' => w'.cell? ⟨gm, 12, none⟩ = some (.slice (some ad) 1 n5) ∧ w'.cell? ⟨gm, 8, none⟩ = some (.int .u16 c0.wordV) ∧ w'.cell? ad = some (.int .u16 v)) (ds := []) (bm 22 0) (by as_aux_lemma => kernel_rfl) rfl (by as_aux_lemma => kernel_rfl) ⟨KW.out, (PS.St.at_sub HP.out).1, (HX.out _ HK.out)⟩ (fun hHeld => ?_)
  refine with_tabW line.tab4 line.bits4 (fun HT_ HW_ => ?_)
  refine pure_ (i := 0) (N := some 40) (v := ?_) (a' := ?_) (bm 22 1) rfl rfl (any_of HT_.out (by as_aux_lemma => kernel_rfl)) (fun _ _ _ h => h) (Or.inl ⟨by rfl, ?_⟩) ?_ ?_
  rotate_left
  · intro w'
    go_simp
    with_reducible rfl
  rotate_left
  · simp only [Act.put, List.setIfInBounds_toArray, List.set_cons_zero, List.set_cons_succ, i64_w, i32_w]
    rfl
  refine pure_ (i := 1) (N := some 41) (v := ?_) (a' := ?_) (bm 22 3) rfl rfl (any_of HT_.out (by as_aux_lemma => kernel_rfl)) (fun _ _ _ h => h) (Or.inl ⟨by rfl, ?_⟩) ?_ ?_
  rotate_left
  · intro w'
    go_simp
    with_reducible rfl
  rotate_left
  · simp only [Act.put, List.setIfInBounds_toArray, List.set_cons_zero, List.set_cons_succ, i64_w, i32_w]
    rfl
  refine pure_ (i := 2) (N := some 42) (v := ?_) (a' := ?_) (bm 22 7) rfl rfl (any_of HT_.out (by as_aux_lemma => kernel_rfl)) (fun _ _ _ h => h) (Or.inl ⟨by rfl, ?_⟩) ?_ ?_
  rotate_left
  · intro w'
    go_simp
    with_reducible rfl
  rotate_left
  · simp only [Act.put, List.setIfInBounds_toArray, List.set_cons_zero, List.set_cons_succ, i64_w, i32_w]
    rfl
  refine pure_ (i := 3) (N := some 43) (v := ?_) (a' := ?_) (bm 22 15) rfl rfl (any_of HT_.out (by as_aux_lemma => kernel_rfl)) (fun _ _ _ h => h) (Or.inl ⟨by rfl, ?_⟩) ?_ ?_
  rotate_left
  · intro w'
    go_simp
    with_reducible rfl
  rotate_left
  · simp only [Act.put, List.setIfInBounds_toArray, List.set_cons_zero, List.set_cons_succ, i64_w, i32_w]
    rfl
  refine take_ (i := 4) (N := some 44) (v := ?_) (a' := ?_) (bm 22 31) rfl rfl (take_ofW HT_.out HW_.out (by as_aux_lemma => kernel_rfl)) (fun _ _ _ h => h) (Or.inl ⟨by rfl, ?_⟩) hHeld ?_ ?_
  rotate_left
  · rintro w' ⟨s0, s1, s2⟩
    go_simp
    with_reducible rfl
  rotate_left
  · simp only [Act.put, List.setIfInBounds_toArray, List.set_cons_zero, List.set_cons_succ, i64_w, i32_w]
    rfl
  refine pure_ (i := 5) (N := some 45) (v := ?_) (a' := ?_) (bm 22 63) rfl rfl (any_of HT_.out (by as_aux_lemma => kernel_rfl)) (fun _ _ _ h => h) (Or.inl ⟨by rfl, ?_⟩) ?_ ?_
  rotate_left
  · intro w'
    go_simp
    with_reducible rfl
  rotate_left
  · simp only [Act.put, List.setIfInBounds_toArray, List.set_cons_zero, List.set_cons_succ, i64_w, i32_w]
    rfl
  refine pure_ (i := 6) (N := some 46) (v := ?_) (a' := ?_) (bm 22 127) rfl rfl (any_of HT_.out (by as_aux_lemma => kernel_rfl)) (fun _ _ _ h => h) (Or.inl ⟨by rfl, ?_⟩) ?_ ?_
  rotate_left
  · intro w'
    go_simp
    with_reducible rfl
  rotate_left
  · simp only [Act.put, List.setIfInBounds_toArray, List.set_cons_zero, List.set_cons_succ, i64_w, i32_w]
    rfl
  refine pure_ (i := 7) (N := some 47) (v := ?_) (a' := ?_) (bm 22 255) rfl rfl (any_of HT_.out (by as_aux_lemma => kernel_rfl)) (fun _ _ _ h => h) (Or.inl ⟨by rfl, ?_⟩) ?_ ?_
  rotate_left
  · intro w'
    go_simp
    with_reducible rfl
  rotate_left
  · simp only [Act.put, List.setIfInBounds_toArray, List.set_cons_zero, List.set_cons_succ, i64_w, i32_w]
    rfl
  refine pure_ (i := 8) (N := some 48) (v := ?_) (a' := ?_) (bm 22 511) rfl rfl (any_of HT_.out (by as_aux_lemma => kernel_rfl)) (fun _ _ _ h => h) (Or.inl ⟨by rfl, ?_⟩) ?_ ?_
  rotate_left
  · intro w'
    go_simp
    with_reducible rfl
  rotate_left
  · simp only [Act.put, List.setIfInBounds_toArray, List.set_cons_zero, List.set_cons_succ, i64_w, i32_w]
    rfl
  refine pure_ (i := 9) (N := some 49) (v := ?_) (a' := ?_) (bm 22 1023) rfl rfl (any_of HT_.out (by as_aux_lemma => kernel_rfl)) (fun _ _ _ h => h) (Or.inl ⟨by rfl, ?_⟩) ?_ ?_
  rotate_left
  · intro w'
    go_simp
    with_reducible rfl
  rotate_left
  · simp only [Act.put, List.setIfInBounds_toArray, List.set_cons_zero, List.set_cons_succ, i64_w, i32_w]
    rfl
  refine pure_ (i := 10) (N := some 50) (v := ?_) (a' := ?_) (bm 22 2047) rfl rfl (any_of HT_.out (by as_aux_lemma => kernel_rfl)) (fun _ _ _ h => h) (Or.inl ⟨by rfl, ?_⟩) ?_ ?_
  rotate_left
  · intro w'
    go_simp
    with_reducible rfl
  rotate_left
  · simp only [Act.put, List.setIfInBounds_toArray, List.set_cons_zero, List.set_cons_succ, i64_w, i32_w]
    rfl
  refine pure_ (i := 11) (N := some 51) (v := ?_) (a' := ?_) (bm 22 4095) rfl rfl (any_of HT_.out (by as_aux_lemma => kernel_rfl)) (fun _ _ _ h => h) (Or.inl ⟨by rfl, ?_⟩) ?_ ?_
  rotate_left
  · intro w'
    go_simp
    with_reducible rfl
  rotate_left
  · simp only [Act.put, List.setIfInBounds_toArray, List.set_cons_zero, List.set_cons_succ, i64_w, i32_w]
    rfl
  refine pure_ (i := 13) (N := some 53) (v := ?_) (a' := ?_) (bm 22 12287) rfl rfl (any_of HT_.out (by as_aux_lemma => kernel_rfl)) (fun _ _ _ h => h) (Or.inl ⟨by rfl, ?_⟩) ?_ ?_
  rotate_left
  · intro w'
    go_simp
    with_reducible rfl
  rotate_left
  · simp only [Act.put, List.setIfInBounds_toArray, List.set_cons_zero, List.set_cons_succ, i64_w, i32_w]
    rfl
  refine pure_ (i := 14) (N := some 54) (v := ?_) (a' := ?_) (bm 22 28671) rfl rfl (any_of HT_.out (by as_aux_lemma => kernel_rfl)) (fun _ _ _ h => h) (Or.inl ⟨by rfl, ?_⟩) ?_ ?_
  rotate_left
  · intro w'
    go_simp
    with_reducible rfl
  rotate_left
  · simp only [Act.put, List.setIfInBounds_toArray, List.set_cons_zero, List.set_cons_succ, i64_w, i32_w]
    rfl
  refine pure_ (i := 15) (N := some 55) (v := ?_) (a' := ?_) (bm 22 61439) rfl rfl (any_of HT_.out (by as_aux_lemma => kernel_rfl)) (fun _ _ _ h => h) (Or.inl ⟨by rfl, ?_⟩) ?_ ?_
  rotate_left
  · intro w'
    go_simp
    with_reducible rfl
  rotate_left
  · simp only [Act.put, List.setIfInBounds_toArray, List.set_cons_zero, List.set_cons_succ, i64_w, i32_w]
    rfl
  refine take_ (i := 12) (N := some 52) (v := ?_) (a' := ?_) (bm 22 65535) rfl rfl (take_ofW HT_.out HW_.out (by as_aux_lemma => kernel_rfl)) (fun _ _ _ h => h) (Or.inl ⟨by rfl, ?_⟩) hHeld ?_ ?_
  rotate_left
  · rintro w' ⟨s0, s1, s2⟩
    go_simp
    with_reducible rfl
  rotate_left
  · simp only [Act.put, List.setIfInBounds_toArray, List.set_cons_zero, List.set_cons_succ, i64_w, i32_w]
    rfl
  refine take_ (i := 16) (N := some 56) (v := ?_) (a' := ?_) (bm 22 131071) rfl rfl (take_ofW HT_.out HW_.out (by as_aux_lemma => kernel_rfl)) (fun _ _ _ h => h) (Or.inl ⟨by rfl, ?_⟩) hHeld ?_ ?_
  rotate_left
  · rintro w' ⟨s0, s1, s2⟩
    go_simp
    with_reducible rfl
  rotate_left
  · simp only [Act.put, List.setIfInBounds_toArray, List.set_cons_zero, List.set_cons_succ, i64_w, i32_w]
    rfl
  refine pure_ (i := 17) (N := some 57) (v := ?_) (a' := ?_) (bm 22 262143) rfl rfl (any_of HT_.out (by as_aux_lemma => kernel_rfl)) (fun _ _ _ h => h) (Or.inl ⟨by rfl, ?_⟩) ?_ ?_
  rotate_left
  · intro w'
    go_simp
    with_reducible rfl
  rotate_left
  · simp only [Act.put, List.setIfInBounds_toArray, List.set_cons_zero, List.set_cons_succ, i64_w, i32_w]
    rfl
  refine take_ (i := 18) (N := some 58) (v := ?_) (a' := ?_) (bm 22 524287) rfl rfl (take_ofW HT_.out HW_.out (by as_aux_lemma => kernel_rfl)) (fun _ _ _ h => h) (Or.inl ⟨by rfl, ?_⟩) hHeld ?_ ?_
  rotate_left
  · rintro w' ⟨s0, s1, s2⟩
    go_simp
    with_reducible rfl
  rotate_left
  · simp only [Act.put, List.setIfInBounds_toArray, List.set_cons_zero, List.set_cons_succ, i64_w, i32_w]
    rfl
  refine one_ (i := 19) (N := some 59) (bm 22 1048575) rfl rfl (one_of HT_.out (by as_aux_lemma => kernel_rfl)) (by as_aux_lemma => decide) (fun K hK => ?_)
  refine goes_ Try.func43 (by as_aux_lemma => kernel_rfl) rfl #[.int .i64 0, .int .u16 c0.wordV, .int .u16 v] (by rfl) rfl rfl (by simp only [List.map_toArray, List.map_cons, List.map_nil]; rfl) ?_
  with_reducible refine (may_any (.inl rfl) ⟨l0, h0⟩ hvb _).mono ?_
  rintro en x90 ⟨rfl, hb_⟩
  have n0_ := Aside0.mk ((hb_.cell (World.block_lt_of_cell? _ _ KW.out)).trans KW.out)
  clear KW
  have KW := n0_
  clear n0_
  have n0_ := Aside0.mk (HK.out.below hb_)
  clear HK
  have HK := n0_
  clear n0_
  have n0_ := Aside0.mk (PS.St.below HP.out hb_)
  clear HP
  have HP := n0_
  clear n0_
  clear hb_
  refine ⟨_, rfl, ?_⟩
  refine hK.out _ _ ⟨KW.out, (PS.St.at_sub HP.out).1, (HX.out _ HK.out)⟩ (fun hHeld => ?_)
  clear hK K
  refine norm_ (a' := ?_) ?_ ?_
  rotate_left
  · show Act.put _ (some 59) _ = _
    simp only [Act.put, List.setIfInBounds_toArray, List.set_cons_zero, List.set_cons_succ, i64_w, i32_w]
    rfl
  refine pure_ (i := 20) (N := some 60) (v := ?_) (a' := ?_) (bm 22 2097151) rfl rfl (any_of HT_.out (by as_aux_lemma => kernel_rfl)) (fun _ _ _ h => h) (Or.inl ⟨by rfl, ?_⟩) ?_ ?_
  rotate_left
  · intro w'
    go_simp
    with_reducible rfl
  rotate_left
  · simp only [Act.put, List.setIfInBounds_toArray, List.set_cons_zero, List.set_cons_succ, i64_w, i32_w]
    rfl
  refine one_ (i := 21) (N := some 61) (bm 22 4194303) rfl rfl (one_of HT_.out (by as_aux_lemma => kernel_rfl)) (by as_aux_lemma => decide) (fun K hK => ?_)
  refine goes_ Try.func40 (by as_aux_lemma => kernel_rfl) rfl #[.pointer (some ⟨g, 0, none⟩), .bool (mayB 0 c0.wordV v), .int .i64 6] (by rfl) rfl rfl (by simp only [List.map_toArray, List.map_cons, List.map_nil]; rfl) ?_
  with_reducible refine (need_k HP.out (mayB 0 c0.wordV v) 6).mono ?_
  rintro en x4 ⟨rfl, hp_, hk_⟩
  rw [← EB.out] at hp_
  have n0_ := Aside0.mk (cell_kept KW.out hk_ (fun e => hp_.h2.1 e))
  clear KW
  have KW := n0_
  clear n0_
  have n0_ := Aside0.mk (HK.out.then_ hk_ (fun k e => .inl (.inl e)))
  clear HK hk_
  have HK := n0_
  clear n0_
  obtain ⟨c4, ec_⟩ : ∃ z, z = c3.need ((c2.wordsV 1).length == 1 && mayB 0 c0.wordV ((c2.wordsV 1).headD 0)) 6 := ⟨_, rfl⟩
  rw [← ec_] at hp_
  have Ec4 := Aside0.mk ec_
  clear ec_
  have n0_ := Aside0.mk hp_
  clear HP hp_
  have HP := n0_
  clear n0_
  refine ⟨_, rfl, ?_⟩
  refine hK.out _ _ ⟨KW.out, (PS.St.at_sub HP.out).1, (HX.out _ HK.out)⟩ (fun hHeld => ?_)
  clear hK K
  refine norm_ (a' := ?_) ?_ ?_
  rotate_left
  · show Act.put _ (some 61) _ = _
    simp only [Act.put, List.setIfInBounds_toArray, List.set_cons_zero, List.set_cons_succ, i64_w, i32_w]
    rfl
  refine done_ (done_of HT_.out (by as_aux_lemma => kernel_rfl)) ?_
  go_wp2
  have eq_ : lineR 0 m c0 = (c4, { m with sub := c0.wordV, words := [v] }) := by
    simp only [lineR, ansR, eventsR, logsR, nameR, Rd.bind, Rd.byte, Rd.word, Rd.bytes, Rd.words, Rd.need, Rd.ret, leftR, ← Ec1.out, ← Ec2.out]
    rw [if_neg HZ.out]
    simp only [ansR, eventsR, logsR, nameR, Rd.bind, Rd.byte, Rd.word, Rd.bytes, Rd.words, Rd.need, Rd.ret, leftR, ← Ec3.out, ← Ec4.out]
    rw [HV.out]
  rw [eq_]
  exact bodyPost_ret (results_none rfl _ _ _) rfl (⟨rfl, HP.out⟩)
theorem line_0_0 {w0 w : World} {gr g gm : Nat} {c0 : Cu} {m : Msg} (h : PS.St w0 gr g gm w c0 m) (hz : c0.wordV ≠ 0) (ho : ((c0.wordS.need (subB c0.wordV && ((0 : Int) == 0 || c0.wordV != 4)) 8).wordsV 1).length ≠ 1) :
    Calls Try.prog 21 #[.int .i64 0, .pointer (some ⟨g, 0, none⟩), .pointer (some ⟨gm, 0, none⟩)] w fun en w' => en = .returned (.tuple #[]) ∧ PS.St w0 gr g gm w' (lineR 0 m c0).1 (lineR 0 m c0).2 := by
  have HP := Aside0.mk h
  have HZ := Aside0.mk hz
  clear h hz
  have HO := Aside0.mk ho
  clear ho
  go_enter Try.func21, Try.ntmps21
  go_upto_region 1 with (first | (go_at_call 39; obtain ⟨l0, h0⟩ := Cu.wordV_bd (PS.St.good HP.out); (with_reducible refine (PS.St.word HP.out).mono ?_); rintro en x1 ⟨rfl, hp_⟩; obtain ⟨c1, ec_⟩ : ∃ z, z = c0.wordS := ⟨_, rfl⟩; rw [← ec_] at hp_; have Ec1 := Aside0.mk ec_; clear ec_; obtain ⟨ksub, fsub⟩ := PS.St.at_sub hp_; have n0_ := Aside0.mk hp_; clear HP hp_; have HP := n0_; clear n0_))
  have hp_ := HP.out.put_sub ⟨l0, h0⟩
  have n0_ := Aside0.mk hp_
  clear HP hp_
  have HP := n0_
  clear n0_
  have HWF := Aside0.mk (show (Lit.int .u16 c0.wordV).wf = true from by simp [Lit.wf, IntKind.min, IntKind.max, IntKind.signed, IntKind.bits]; omega)
  obtain ⟨c2, e_⟩ : ∃ z, z = c1.need (subB c0.wordV && ((0 : Int) == 0 || c0.wordV != 4)) 8 := ⟨_, rfl⟩
  have Ec2 := Aside0.mk e_
  clear e_
  obtain ⟨ksub, fsub⟩ := PS.St.at_sub HP.out
  go_cut [] from 12 to 30 (fun wx => Aside0 (PS.St w0 gr g gm wx c2 ({ m with sub := c0.wordV })))
  case first =>
    cases hs0_ : (subB c0.wordV) with
    | true =>
      have eb_ : (subB c0.wordV && ((0 : Int) == 0 || c0.wordV != 4)) = (true) := by first | (simp only [hs0_]; first | rfl | (simp; done)) | (simp [hs0_]; done) | (simp only [bne, hs0_]; first | rfl | (simp; done))
      have EB_ := Aside0.mk eb_
      clear eb_
      go_wp2_with (first | (go_at_call 41; (with_reducible refine (sub_c HWF.out _).mono ?_); rintro en xb ⟨rfl, hb_⟩; have n0_ := Aside0.mk (PS.St.below HP.out hb_); clear HP hb_; have HP := n0_; clear n0_; obtain ⟨ksub, fsub⟩ := PS.St.at_sub HP.out) | (go_at_call 40; (with_reducible refine (PS.St.need HP.out (true) 8).mono ?_); rintro en x2 ⟨rfl, hp_⟩; have n0_ := Aside0.mk hp_; clear HP hp_; have HP := n0_; clear n0_))
      go_meet
      rw [Ec2.out, EB_.out]
      exact HP
    | false =>
      have eb_ : (subB c0.wordV && ((0 : Int) == 0 || c0.wordV != 4)) = (false) := by first | (simp only [hs0_]; first | rfl | (simp; done)) | (simp [hs0_]; done) | (simp only [bne, hs0_]; first | rfl | (simp; done))
      have EB_ := Aside0.mk eb_
      clear eb_
      go_wp2_with (first | (go_at_call 41; (with_reducible refine (sub_c HWF.out _).mono ?_); rintro en xb ⟨rfl, hb_⟩; have n0_ := Aside0.mk (PS.St.below HP.out hb_); clear HP hb_; have HP := n0_; clear n0_; obtain ⟨ksub, fsub⟩ := PS.St.at_sub HP.out) | (go_at_call 40; (with_reducible refine (PS.St.need HP.out (false) 8).mono ?_); rintro en x2 ⟨rfl, hp_⟩; have n0_ := Aside0.mk hp_; clear HP hp_; have HP := n0_; clear n0_))
      go_meet
      rw [Ec2.out, EB_.out]
      exact HP
  case rest =>
  clear HP
  have HP := hcut
  clear hcut
  have hz_ : (c0.wordV != 0) = true := by simpa using HZ.out
  obtain ⟨ksub, fsub⟩ := PS.St.at_sub HP.out
  have HBY := Aside0.mk (Cu.wordsV_bd (PS.St.good HP.out) 1)
  go_upto_region 4 with (first | (go_at_call 42; (with_reducible refine (PS.St.words HP.out (1)).mono ?_); rintro en x3 ⟨A5, n5, rfl, hz_, hr_, hp_⟩; obtain ⟨c3, ec_⟩ : ∃ z, z = c2.wordsS (1) := ⟨_, rfl⟩; rw [← ec_] at hp_; have Ec3 := Aside0.mk ec_; clear ec_; have R5 := Aside0.mk hr_; have R5z := Aside0.mk hz_; clear hr_ hz_; have n0_ := Aside0.mk hp_; clear HP hp_; have HP := n0_; clear n0_; obtain ⟨Aw, nw, kw, fw⟩ := PS.St.at_words HP.out))
  clear hz_
  have HE := Aside0.mk (show c0.wordS.need (subB c0.wordV && ((0 : Int) == 0 || c0.wordV != 4)) 8 = c2 by rw [Ec2.out, Ec1.out])
  have KW := Aside0.mk (show (World.setCell x3 ⟨gm, 12, none⟩ (.slice A5 (c2.wordsV 1).length n5)).cell? ⟨gm, 12, none⟩ = some (.slice A5 (c2.wordsV 1).length n5) from World.cell?_setCell_same _ _ _ (by rw [kw]))
  have HK := Aside0.mk (show Kept x3 (World.setCell x3 ⟨gm, 12, none⟩ (.slice A5 (c2.wordsV 1).length n5)) (fun k => k = g ∨ k = gm ∨ k = gr) from (Kept.refl _ _).setCell (p := ⟨gm, 12, none⟩) (.inl (.inr (.inl rfl))) _)
  have hp_ := HP.out.put_words R5z.out HBY.out R5.out
  have n0_ := Aside0.mk hp_
  clear HP hp_
  have HP := n0_
  clear n0_
  have n0_ := Aside0.mk (((below_drew (Below.refl _ _)).cell (World.block_lt_of_cell? _ _ KW.out)).trans KW.out)
  clear KW
  have KW := n0_
  clear n0_
  have n0_ := Aside0.mk (HK.out.below (below_drew (Below.refl _ _)))
  clear HK
  have HK := n0_
  clear n0_
  have n0_ := Aside0.mk (PS.St.below HP.out (below_drew (Below.refl _ _)))
  clear HP
  have HP := n0_
  clear n0_
  have EB := Aside0.mk (show ((c2.wordsV 1).length == 1 && mayB 0 c0.wordV ((c2.wordsV 1).headD 0)) = (false) from by rw [show ((c2.wordsV 1).length == 1) = false from beq_eq_false_iff_ne.2 (by have := HO.out; rw [HE.out] at this; exact this)]; rfl)
  have hl1 : ((((c2.wordsV 1).length : Nat) : Int) == 1) = false := beq_eq_false_iff_ne.2 (by have := HO.out; rw [HE.out] at this; omega)
  refine start_ (n := 22) (S := fun w' => w'.cell? ⟨gm, 12, none⟩ = some (.slice A5 (c2.wordsV 1).length n5)) (ds := []) (bm 22 0) (by as_aux_lemma => kernel_rfl) rfl (by as_aux_lemma => kernel_rfl) (KW.out) (fun hHeld => ?_)
  refine with_tabW line.tab4 line.bits4 (fun HT_ HW_ => ?_)
  refine pure_ (i := 0) (N := some 40) (v := ?_) (a' := ?_) (bm 22 1) rfl rfl (any_of HT_.out (by as_aux_lemma => kernel_rfl)) (fun _ _ _ h => h) (Or.inl ⟨by rfl, ?_⟩) ?_ ?_
  rotate_left
  · intro w'
    go_simp
    with_reducible rfl
  rotate_left
  · simp only [Act.put, List.setIfInBounds_toArray, List.set_cons_zero, List.set_cons_succ, i64_w, i32_w]
    rfl
  refine pure_ (i := 1) (N := some 41) (v := ?_) (a' := ?_) (bm 22 3) rfl rfl (any_of HT_.out (by as_aux_lemma => kernel_rfl)) (fun _ _ _ h => h) (Or.inl ⟨by rfl, ?_⟩) ?_ ?_
  rotate_left
  · intro w'
    go_simp
    with_reducible rfl
  rotate_left
  · simp only [Act.put, List.setIfInBounds_toArray, List.set_cons_zero, List.set_cons_succ, i64_w, i32_w]
    rfl
  refine pure_ (i := 2) (N := some 42) (v := ?_) (a' := ?_) (bm 22 7) rfl rfl (any_of HT_.out (by as_aux_lemma => kernel_rfl)) (fun _ _ _ h => h) (Or.inl ⟨by rfl, ?_⟩) ?_ ?_
  rotate_left
  · intro w'
    go_simp
    with_reducible rfl
  rotate_left
  · simp only [Act.put, List.setIfInBounds_toArray, List.set_cons_zero, List.set_cons_succ, i64_w, i32_w]
    rfl
  refine pure_ (i := 3) (N := some 43) (v := ?_) (a' := ?_) (bm 22 15) rfl rfl (any_of HT_.out (by as_aux_lemma => kernel_rfl)) (fun _ _ _ h => h) (Or.inl ⟨by rfl, ?_⟩) ?_ ?_
  rotate_left
  · intro w'
    go_simp
    with_reducible rfl
  rotate_left
  · simp only [Act.put, List.setIfInBounds_toArray, List.set_cons_zero, List.set_cons_succ, i64_w, i32_w]
    rfl
  refine take_ (i := 4) (N := some 44) (v := ?_) (a' := ?_) (bm 22 31) rfl rfl (take_ofW HT_.out HW_.out (by as_aux_lemma => kernel_rfl)) (fun _ _ _ h => h) (Or.inl ⟨by rfl, ?_⟩) hHeld ?_ ?_
  rotate_left
  · intro w' s0
    go_simp
    with_reducible rfl
  rotate_left
  · simp only [Act.put, List.setIfInBounds_toArray, List.set_cons_zero, List.set_cons_succ, i64_w, i32_w]
    rfl
  refine pure_ (i := 5) (N := some 45) (v := ?_) (a' := ?_) (bm 22 63) rfl rfl (any_of HT_.out (by as_aux_lemma => kernel_rfl)) (fun _ _ _ h => h) (Or.inl ⟨by rfl, ?_⟩) ?_ ?_
  rotate_left
  · intro w'
    go_simp
    with_reducible rfl
  rotate_left
  · simp only [Act.put, List.setIfInBounds_toArray, List.set_cons_zero, List.set_cons_succ, i64_w, i32_w]
    rfl
  refine pure_ (i := 6) (N := some 46) (v := ?_) (a' := ?_) (bm 22 127) rfl rfl (any_of HT_.out (by as_aux_lemma => kernel_rfl)) (fun _ _ _ h => h) (Or.inl ⟨by rfl, ?_⟩) ?_ ?_
  rotate_left
  · intro w'
    go_simp
    with_reducible rfl
  rotate_left
  · simp only [Act.put, List.setIfInBounds_toArray, List.set_cons_zero, List.set_cons_succ, i64_w, i32_w]
    rfl
  refine pure_ (i := 7) (N := some 47) (v := ?_) (a' := ?_) (bm 22 255) rfl rfl (any_of HT_.out (by as_aux_lemma => kernel_rfl)) (fun _ _ _ h => h) (Or.inl ⟨by rfl, ?_⟩) ?_ ?_
  rotate_left
  · intro w'
    go_simp
    with_reducible rfl
  rotate_left
  · simp only [Act.put, List.setIfInBounds_toArray, List.set_cons_zero, List.set_cons_succ, i64_w, i32_w]
    rfl
  refine pure_ (i := 8) (N := some 48) (v := undef) (a' := ?_) (bm 22 511) rfl rfl (any_of HT_.out (by as_aux_lemma => kernel_rfl)) (fun _ _ _ h => h) (Or.inr ⟨by rfl, rfl⟩) ?_ ?_
  rotate_left
  · simp only [Act.put, List.setIfInBounds_toArray, List.set_cons_zero, List.set_cons_succ, i64_w, i32_w]
    rfl
  refine pure_ (i := 9) (N := some 49) (v := undef) (a' := ?_) (bm 22 1023) rfl rfl (any_of HT_.out (by as_aux_lemma => kernel_rfl)) (fun _ _ _ h => h) (Or.inr ⟨by rfl, rfl⟩) ?_ ?_
  rotate_left
  · simp only [Act.put, List.setIfInBounds_toArray, List.set_cons_zero, List.set_cons_succ, i64_w, i32_w]
    rfl
  refine pure_ (i := 10) (N := some 50) (v := undef) (a' := ?_) (bm 22 2047) rfl rfl (any_of HT_.out (by as_aux_lemma => kernel_rfl)) (fun _ _ _ h => h) (Or.inr ⟨by rfl, rfl⟩) ?_ ?_
  rotate_left
  · simp only [Act.put, List.setIfInBounds_toArray, List.set_cons_zero, List.set_cons_succ, i64_w, i32_w]
    rfl
  refine pure_ (i := 11) (N := some 51) (v := undef) (a' := ?_) (bm 22 4095) rfl rfl (any_of HT_.out (by as_aux_lemma => kernel_rfl)) (fun _ _ _ h => h) (Or.inr ⟨by rfl, rfl⟩) ?_ ?_
  rotate_left
  · simp only [Act.put, List.setIfInBounds_toArray, List.set_cons_zero, List.set_cons_succ, i64_w, i32_w]
    rfl
  refine pure_ (i := 12) (N := some 52) (v := undef) (a' := ?_) (bm 22 8191) rfl rfl (any_of HT_.out (by as_aux_lemma => kernel_rfl)) (fun _ _ _ h => h) (Or.inr ⟨by rfl, rfl⟩) ?_ ?_
  rotate_left
  · simp only [Act.put, List.setIfInBounds_toArray, List.set_cons_zero, List.set_cons_succ, i64_w, i32_w]
    rfl
  refine pure_ (i := 13) (N := some 53) (v := undef) (a' := ?_) (bm 22 16383) rfl rfl (any_of HT_.out (by as_aux_lemma => kernel_rfl)) (fun _ _ _ h => h) (Or.inr ⟨by rfl, rfl⟩) ?_ ?_
  rotate_left
  · simp only [Act.put, List.setIfInBounds_toArray, List.set_cons_zero, List.set_cons_succ, i64_w, i32_w]
    rfl
  refine pure_ (i := 14) (N := some 54) (v := undef) (a' := ?_) (bm 22 32767) rfl rfl (any_of HT_.out (by as_aux_lemma => kernel_rfl)) (fun _ _ _ h => h) (Or.inr ⟨by rfl, rfl⟩) ?_ ?_
  rotate_left
  · simp only [Act.put, List.setIfInBounds_toArray, List.set_cons_zero, List.set_cons_succ, i64_w, i32_w]
    rfl
  refine pure_ (i := 15) (N := some 55) (v := undef) (a' := ?_) (bm 22 65535) rfl rfl (any_of HT_.out (by as_aux_lemma => kernel_rfl)) (fun _ _ _ h => h) (Or.inr ⟨by rfl, rfl⟩) ?_ ?_
  rotate_left
  · simp only [Act.put, List.setIfInBounds_toArray, List.set_cons_zero, List.set_cons_succ, i64_w, i32_w]
    rfl
  refine pure_ (i := 16) (N := some 56) (v := undef) (a' := ?_) (bm 22 131071) rfl rfl (any_of HT_.out (by as_aux_lemma => kernel_rfl)) (fun _ _ _ h => h) (Or.inr ⟨by rfl, rfl⟩) ?_ ?_
  rotate_left
  · simp only [Act.put, List.setIfInBounds_toArray, List.set_cons_zero, List.set_cons_succ, i64_w, i32_w]
    rfl
  refine pure_ (i := 17) (N := some 57) (v := undef) (a' := ?_) (bm 22 262143) rfl rfl (any_of HT_.out (by as_aux_lemma => kernel_rfl)) (fun _ _ _ h => h) (Or.inr ⟨by rfl, rfl⟩) ?_ ?_
  rotate_left
  · simp only [Act.put, List.setIfInBounds_toArray, List.set_cons_zero, List.set_cons_succ, i64_w, i32_w]
    rfl
  refine pure_ (i := 18) (N := some 58) (v := undef) (a' := ?_) (bm 22 524287) rfl rfl (any_of HT_.out (by as_aux_lemma => kernel_rfl)) (fun _ _ _ h => h) (Or.inr ⟨by rfl, rfl⟩) ?_ ?_
  rotate_left
  · simp only [Act.put, List.setIfInBounds_toArray, List.set_cons_zero, List.set_cons_succ, i64_w, i32_w]
    rfl
  refine pure_ (i := 19) (N := some 59) (v := undef) (a' := ?_) (bm 22 1048575) rfl rfl (any_of HT_.out (by as_aux_lemma => kernel_rfl)) (fun _ _ _ h => h) (Or.inr ⟨by rfl, rfl⟩) ?_ ?_
  rotate_left
  · simp only [Act.put, List.setIfInBounds_toArray, List.set_cons_zero, List.set_cons_succ, i64_w, i32_w]
    rfl
  refine pure_ (i := 20) (N := some 60) (v := ?_) (a' := ?_) (bm 22 2097151) rfl rfl (any_of HT_.out (by as_aux_lemma => kernel_rfl)) (fun _ _ _ h => h) (Or.inl ⟨by rfl, ?_⟩) ?_ ?_
  rotate_left
  · intro w'
    go_simp
    with_reducible rfl
  rotate_left
  · simp only [Act.put, List.setIfInBounds_toArray, List.set_cons_zero, List.set_cons_succ, i64_w, i32_w]
    rfl
  refine one_ (i := 21) (N := some 61) (bm 22 4194303) rfl rfl (one_of HT_.out (by as_aux_lemma => kernel_rfl)) (by as_aux_lemma => decide) (fun K hK => ?_)
  refine goes_ Try.func40 (by as_aux_lemma => kernel_rfl) rfl #[.pointer (some ⟨g, 0, none⟩), .bool (false), .int .i64 6] (by rfl) rfl rfl (by simp only [List.map_toArray, List.map_cons, List.map_nil]; rfl) ?_
  with_reducible refine (need_k HP.out (false) 6).mono ?_
  rintro en x4 ⟨rfl, hp_, hk_⟩
  rw [← EB.out] at hp_
  have n0_ := Aside0.mk (cell_kept KW.out hk_ (fun e => hp_.h2.1 e))
  clear KW
  have KW := n0_
  clear n0_
  have n0_ := Aside0.mk (HK.out.then_ hk_ (fun k e => .inl (.inl e)))
  clear HK hk_
  have HK := n0_
  clear n0_
  obtain ⟨c4, ec_⟩ : ∃ z, z = c3.need ((c2.wordsV 1).length == 1 && mayB 0 c0.wordV ((c2.wordsV 1).headD 0)) 6 := ⟨_, rfl⟩
  rw [← ec_] at hp_
  have Ec4 := Aside0.mk ec_
  clear ec_
  have n0_ := Aside0.mk hp_
  clear HP hp_
  have HP := n0_
  clear n0_
  refine ⟨_, rfl, ?_⟩
  refine hK.out _ _ (KW.out) (fun hHeld => ?_)
  clear hK K
  refine norm_ (a' := ?_) ?_ ?_
  rotate_left
  · show Act.put _ (some 61) _ = _
    simp only [Act.put, List.setIfInBounds_toArray, List.set_cons_zero, List.set_cons_succ, i64_w, i32_w]
    rfl
  refine done_ (done_of HT_.out (by as_aux_lemma => kernel_rfl)) ?_
  go_wp2
  have eq_ : lineR 0 m c0 = (c4, { m with sub := c0.wordV, words := c2.wordsV 1 }) := by
    simp only [lineR, ansR, eventsR, logsR, nameR, Rd.bind, Rd.byte, Rd.word, Rd.bytes, Rd.words, Rd.need, Rd.ret, leftR, ← Ec1.out, ← Ec2.out]
    rw [if_neg HZ.out]
    simp only [ansR, eventsR, logsR, nameR, Rd.bind, Rd.byte, Rd.word, Rd.bytes, Rd.words, Rd.need, Rd.ret, leftR, ← Ec3.out, ← Ec4.out]
  rw [eq_]
  exact bodyPost_ret (results_none rfl _ _ _) rfl (⟨rfl, HP.out⟩)
theorem line_0 {w0 w : World} {gr g gm : Nat} {c0 : Cu} {m : Msg} (h : PS.St w0 gr g gm w c0 m) : Calls Try.prog 21 #[.int .i64 0, .pointer (some ⟨g, 0, none⟩), .pointer (some ⟨gm, 0, none⟩)] w fun en w' => en = .returned (.tuple #[]) ∧ PS.St w0 gr g gm w' (lineR 0 m c0).1 (lineR 0 m c0).2 := by
  by_cases hz : c0.wordV = 0
  · exact line_0_e h hz
  by_cases ho : ((c0.wordS.need (subB c0.wordV && ((0 : Int) == 0 || c0.wordV != 4)) 8).wordsV 1).length = 1
  · exact line_0_1 h hz ho
  · exact line_0_0 h hz ho
theorem line_1_e {w0 w : World} {gr g gm : Nat} {c0 : Cu} {m : Msg} (h : PS.St w0 gr g gm w c0 m) (hz : c0.wordV = 0) :
    Calls Try.prog 21 #[.int .i64 1, .pointer (some ⟨g, 0, none⟩), .pointer (some ⟨gm, 0, none⟩)] w fun en w' => en = .returned (.tuple #[]) ∧ PS.St w0 gr g gm w' (lineR 1 m c0).1 (lineR 1 m c0).2 := by
  have HP := Aside0.mk h
  have HZ := Aside0.mk hz
  clear h hz
  go_enter Try.func21, Try.ntmps21
  go_upto_region 1 with (first | (go_at_call 39; obtain ⟨l0, h0⟩ := Cu.wordV_bd (PS.St.good HP.out); (with_reducible refine (PS.St.word HP.out).mono ?_); rintro en x1 ⟨rfl, hp_⟩; obtain ⟨c1, ec_⟩ : ∃ z, z = c0.wordS := ⟨_, rfl⟩; rw [← ec_] at hp_; have Ec1 := Aside0.mk ec_; clear ec_; obtain ⟨ksub, fsub⟩ := PS.St.at_sub hp_; have n0_ := Aside0.mk hp_; clear HP hp_; have HP := n0_; clear n0_))
  have hp_ := HP.out.put_sub ⟨l0, h0⟩
  have n0_ := Aside0.mk hp_
  clear HP hp_
  have HP := n0_
  clear n0_
  have HWF := Aside0.mk (show (Lit.int .u16 c0.wordV).wf = true from by simp [Lit.wf, IntKind.min, IntKind.max, IntKind.signed, IntKind.bits]; omega)
  obtain ⟨c2, e_⟩ : ∃ z, z = c1.need (subB c0.wordV && ((1 : Int) == 0 || c0.wordV != 4)) 8 := ⟨_, rfl⟩
  have Ec2 := Aside0.mk e_
  clear e_
  obtain ⟨ksub, fsub⟩ := PS.St.at_sub HP.out
  go_cut [] from 12 to 30 (fun wx => Aside0 (PS.St w0 gr g gm wx c2 ({ m with sub := c0.wordV })))
  case first =>
    cases hs0_ : (subB c0.wordV) with
    | true =>
      have eb_ : (subB c0.wordV && ((1 : Int) == 0 || c0.wordV != 4)) = (c0.wordV != 4) := by first | (simp only [hs0_]; first | rfl | (simp; done)) | (simp [hs0_]; done) | (simp only [bne, hs0_]; first | rfl | (simp; done))
      have EB_ := Aside0.mk eb_
      clear eb_
      go_wp2_with (first | (go_at_call 41; (with_reducible refine (sub_c HWF.out _).mono ?_); rintro en xb ⟨rfl, hb_⟩; have n0_ := Aside0.mk (PS.St.below HP.out hb_); clear HP hb_; have HP := n0_; clear n0_; obtain ⟨ksub, fsub⟩ := PS.St.at_sub HP.out) | (go_at_call 40; (with_reducible refine (PS.St.need HP.out (c0.wordV != 4) 8).mono ?_); rintro en x2 ⟨rfl, hp_⟩; have n0_ := Aside0.mk hp_; clear HP hp_; have HP := n0_; clear n0_))
      go_meet
      rw [Ec2.out, EB_.out]
      exact HP
    | false =>
      have eb_ : (subB c0.wordV && ((1 : Int) == 0 || c0.wordV != 4)) = (false) := by first | (simp only [hs0_]; first | rfl | (simp; done)) | (simp [hs0_]; done) | (simp only [bne, hs0_]; first | rfl | (simp; done))
      have EB_ := Aside0.mk eb_
      clear eb_
      go_wp2_with (first | (go_at_call 41; (with_reducible refine (sub_c HWF.out _).mono ?_); rintro en xb ⟨rfl, hb_⟩; have n0_ := Aside0.mk (PS.St.below HP.out hb_); clear HP hb_; have HP := n0_; clear n0_; obtain ⟨ksub, fsub⟩ := PS.St.at_sub HP.out) | (go_at_call 40; (with_reducible refine (PS.St.need HP.out (false) 8).mono ?_); rintro en x2 ⟨rfl, hp_⟩; have n0_ := Aside0.mk hp_; clear HP hp_; have HP := n0_; clear n0_))
      go_meet
      rw [Ec2.out, EB_.out]
      exact HP
  case rest =>
  clear HP
  have HP := hcut
  clear hcut
  have hz_ : (c0.wordV != 0) = false := by rw [HZ.out]; rfl
  obtain ⟨ksub, fsub⟩ := PS.St.at_sub HP.out
  go_upto_region 6 with (first | (go_at_call 44; (with_reducible refine (PS.St.left HP.out).mono ?_); rintro en x3 ⟨rfl, hp_⟩; have n0_ := Aside0.mk hp_; clear HP hp_; have HP := n0_; clear n0_))
  clear hz_ ksub fsub
  have wd : Int.tdiv (c2.xs.length : Int) 2 = (c2.xs.length : Int) / 2 := Int.tdiv_eq_ediv_of_nonneg (by omega)
  have wq := wrap64_id (x := (c2.xs.length : Int) / 2) (by omega) (by have := (PS.St.good HP.out).2.1; omega)
  obtain ⟨c3, e_⟩ : ∃ z, z = c2.need ((c2.xs.length : Int) % 2 == 0 && (decide (2 ≤ (c2.xs.length : Int)) && decide ((c2.xs.length : Int) ≤ 250))) 5 := ⟨_, rfl⟩
  have Ec3 := Aside0.mk e_
  clear e_
  go_cut [] from 64 to 77 (fun wx => Aside0 (PS.St w0 gr g gm wx c3 ({ m with sub := c0.wordV })))
  case first =>
    cases hs0_ : ((c2.xs.length : Int) % 2 == 0) with
    | true =>
      have hs0a_ : ((c2.xs.length : Int) % 2 != 0) = false := by first | exact hs0_ | (rw [bne, hs0_]; rfl) | (have := hs0_; rw [bne] at this; simpa using this)
      have hs0t_ : (Int.tmod (c2.xs.length : Int) 2 == 0) = true := by rw [Int.tmod_eq_emod_of_nonneg (by omega)]; exact hs0_
      cases hs1_ : (decide (2 ≤ (c2.xs.length : Int))) with
      | true =>
        have hs1a_ : (decide ((c2.xs.length : Int) ≥ 2)) = true := by first | exact hs1_ | (rw [bne, hs1_]; rfl) | (have := hs1_; rw [bne] at this; simpa using this)
        have eb_ : ((c2.xs.length : Int) % 2 == 0 && (decide (2 ≤ (c2.xs.length : Int)) && decide ((c2.xs.length : Int) ≤ 250))) = (decide ((c2.xs.length : Int) ≤ 250)) := by first | (simp only [hs0_, hs1_]; first | rfl | (simp; done)) | (simp [hs0_, hs1_]; done) | (simp only [bne, hs0_, hs1_]; first | rfl | (simp; done))
        have EB_ := Aside0.mk eb_
        clear eb_
        go_wp2_with (first | (go_at_call 40; (with_reducible refine (PS.St.need HP.out (decide ((c2.xs.length : Int) ≤ 250)) 5).mono ?_); rintro en x4 ⟨rfl, hp_⟩; have n0_ := Aside0.mk hp_; clear HP hp_; have HP := n0_; clear n0_))
        go_meet
        rw [Ec3.out, EB_.out]
        exact HP
      | false =>
        have hs1a_ : (decide ((c2.xs.length : Int) ≥ 2)) = false := by first | exact hs1_ | (rw [bne, hs1_]; rfl) | (have := hs1_; rw [bne] at this; simpa using this)
        have eb_ : ((c2.xs.length : Int) % 2 == 0 && (decide (2 ≤ (c2.xs.length : Int)) && decide ((c2.xs.length : Int) ≤ 250))) = (false) := by first | (simp only [hs0_, hs1_]; first | rfl | (simp; done)) | (simp [hs0_, hs1_]; done) | (simp only [bne, hs0_, hs1_]; first | rfl | (simp; done))
        have EB_ := Aside0.mk eb_
        clear eb_
        go_wp2_with (first | (go_at_call 40; (with_reducible refine (PS.St.need HP.out (false) 5).mono ?_); rintro en x4 ⟨rfl, hp_⟩; have n0_ := Aside0.mk hp_; clear HP hp_; have HP := n0_; clear n0_))
        go_meet
        rw [Ec3.out, EB_.out]
        exact HP
    | false =>
      have hs0a_ : ((c2.xs.length : Int) % 2 != 0) = true := by first | exact hs0_ | (rw [bne, hs0_]; rfl) | (have := hs0_; rw [bne] at this; simpa using this)
      have hs0t_ : (Int.tmod (c2.xs.length : Int) 2 == 0) = false := by rw [Int.tmod_eq_emod_of_nonneg (by omega)]; exact hs0_
      have eb_ : ((c2.xs.length : Int) % 2 == 0 && (decide (2 ≤ (c2.xs.length : Int)) && decide ((c2.xs.length : Int) ≤ 250))) = (false) := by first | (simp only [hs0_]; first | rfl | (simp; done)) | (simp [hs0_]; done) | (simp only [bne, hs0_]; first | rfl | (simp; done))
      have EB_ := Aside0.mk eb_
      clear eb_
      go_wp2_with (first | (go_at_call 40; (with_reducible refine (PS.St.need HP.out (false) 5).mono ?_); rintro en x4 ⟨rfl, hp_⟩; have n0_ := Aside0.mk hp_; clear HP hp_; have HP := n0_; clear n0_))
      go_meet
      rw [Ec3.out, EB_.out]
      exact HP
  case rest =>
  clear HP
  have HP := hcut
  clear hcut
  have HBY := Aside0.mk (Cu.wordsV_bd (PS.St.good HP.out) ((c2.xs.length : Int) / 2))
  go_wp2_with (first | (go_at_call 42; (with_reducible refine (PS.St.words HP.out ((c2.xs.length : Int) / 2)).mono ?_); rintro en x5 ⟨A5, n5, rfl, hz_, hr_, hp_⟩; obtain ⟨c4, ec_⟩ : ∃ z, z = c3.wordsS ((c2.xs.length : Int) / 2) := ⟨_, rfl⟩; rw [← ec_] at hp_; have Ec4 := Aside0.mk ec_; clear ec_; have R5 := Aside0.mk hr_; have R5z := Aside0.mk hz_; clear hr_ hz_; have n0_ := Aside0.mk hp_; clear HP hp_; have HP := n0_; clear n0_; obtain ⟨Aw, nw, kw, fw⟩ := PS.St.at_words HP.out))
  have hp_ := HP.out.put_words R5z.out HBY.out R5.out
  have n0_ := Aside0.mk hp_
  clear HP hp_
  have HP := n0_
  clear n0_
  have eq_ : lineR 1 m c0 = (c4, { m with sub := c0.wordV, words := c3.wordsV ((c2.xs.length : Int) / 2) }) := by
    have e1 : lineR 1 m c0 = echoR { m with sub := c0.wordV } c2 := by
      rw [Ec2.out, Ec1.out]
      show (if c0.wordV = 0 then (_ : Cu → Cu × Msg) else _) _ = _
      rw [if_pos HZ.out]
      rfl
    rw [e1, Ec4.out, Ec3.out]
    rfl
  rw [eq_]
  exact bodyPost_end (results_none rfl _ _ _) rfl (⟨rfl, HP.out⟩)
theorem line_1_1 {w0 w : World} {gr g gm : Nat} {c0 : Cu} {m : Msg} (h : PS.St w0 gr g gm w c0 m) (hz : c0.wordV ≠ 0) (ho : ((c0.wordS.need (subB c0.wordV && ((1 : Int) == 0 || c0.wordV != 4)) 8).wordsV 1).length = 1) :
    Calls Try.prog 21 #[.int .i64 1, .pointer (some ⟨g, 0, none⟩), .pointer (some ⟨gm, 0, none⟩)] w fun en w' => en = .returned (.tuple #[]) ∧ PS.St w0 gr g gm w' (lineR 1 m c0).1 (lineR 1 m c0).2 := by
  have HP := Aside0.mk h
  have HZ := Aside0.mk hz
  clear h hz
  have HO := Aside0.mk ho
  clear ho
  go_enter Try.func21, Try.ntmps21
  go_upto_region 1 with (first | (go_at_call 39; obtain ⟨l0, h0⟩ := Cu.wordV_bd (PS.St.good HP.out); (with_reducible refine (PS.St.word HP.out).mono ?_); rintro en x1 ⟨rfl, hp_⟩; obtain ⟨c1, ec_⟩ : ∃ z, z = c0.wordS := ⟨_, rfl⟩; rw [← ec_] at hp_; have Ec1 := Aside0.mk ec_; clear ec_; obtain ⟨ksub, fsub⟩ := PS.St.at_sub hp_; have n0_ := Aside0.mk hp_; clear HP hp_; have HP := n0_; clear n0_))
  have hp_ := HP.out.put_sub ⟨l0, h0⟩
  have n0_ := Aside0.mk hp_
  clear HP hp_
  have HP := n0_
  clear n0_
  have HWF := Aside0.mk (show (Lit.int .u16 c0.wordV).wf = true from by simp [Lit.wf, IntKind.min, IntKind.max, IntKind.signed, IntKind.bits]; omega)
  obtain ⟨c2, e_⟩ : ∃ z, z = c1.need (subB c0.wordV && ((1 : Int) == 0 || c0.wordV != 4)) 8 := ⟨_, rfl⟩
  have Ec2 := Aside0.mk e_
  clear e_
  obtain ⟨ksub, fsub⟩ := PS.St.at_sub HP.out
  go_cut [] from 12 to 30 (fun wx => Aside0 (PS.St w0 gr g gm wx c2 ({ m with sub := c0.wordV })))
  case first =>
    cases hs0_ : (subB c0.wordV) with
    | true =>
      have eb_ : (subB c0.wordV && ((1 : Int) == 0 || c0.wordV != 4)) = (c0.wordV != 4) := by first | (simp only [hs0_]; first | rfl | (simp; done)) | (simp [hs0_]; done) | (simp only [bne, hs0_]; first | rfl | (simp; done))
      have EB_ := Aside0.mk eb_
      clear eb_
      go_wp2_with (first | (go_at_call 41; (with_reducible refine (sub_c HWF.out _).mono ?_); rintro en xb ⟨rfl, hb_⟩; have n0_ := Aside0.mk (PS.St.below HP.out hb_); clear HP hb_; have HP := n0_; clear n0_; obtain ⟨ksub, fsub⟩ := PS.St.at_sub HP.out) | (go_at_call 40; (with_reducible refine (PS.St.need HP.out (c0.wordV != 4) 8).mono ?_); rintro en x2 ⟨rfl, hp_⟩; have n0_ := Aside0.mk hp_; clear HP hp_; have HP := n0_; clear n0_))
      go_meet
      rw [Ec2.out, EB_.out]
      exact HP
    | false =>
      have eb_ : (subB c0.wordV && ((1 : Int) == 0 || c0.wordV != 4)) = (false) := by first | (simp only [hs0_]; first | rfl | (simp; done)) | (simp [hs0_]; done) | (simp only [bne, hs0_]; first | rfl | (simp; done))
      have EB_ := Aside0.mk eb_
      clear eb_
      go_wp2_with (first | (go_at_call 41; (with_reducible refine (sub_c HWF.out _).mono ?_); rintro en xb ⟨rfl, hb_⟩; have n0_ := Aside0.mk (PS.St.below HP.out hb_); clear HP hb_; have HP := n0_; clear n0_; obtain ⟨ksub, fsub⟩ := PS.St.at_sub HP.out) | (go_at_call 40; (with_reducible refine (PS.St.need HP.out (false) 8).mono ?_); rintro en x2 ⟨rfl, hp_⟩; have n0_ := Aside0.mk hp_; clear HP hp_; have HP := n0_; clear n0_))
      go_meet
      rw [Ec2.out, EB_.out]
      exact HP
  case rest =>
  clear HP
  have HP := hcut
  clear hcut
  have hz_ : (c0.wordV != 0) = true := by simpa using HZ.out
  obtain ⟨ksub, fsub⟩ := PS.St.at_sub HP.out
  have HBY := Aside0.mk (Cu.wordsV_bd (PS.St.good HP.out) 1)
  go_upto_region 4 with (first | (go_at_call 42; (with_reducible refine (PS.St.words HP.out (1)).mono ?_); rintro en x3 ⟨A5, n5, rfl, hz_, hr_, hp_⟩; obtain ⟨c3, ec_⟩ : ∃ z, z = c2.wordsS (1) := ⟨_, rfl⟩; rw [← ec_] at hp_; have Ec3 := Aside0.mk ec_; clear ec_; have R5 := Aside0.mk hr_; have R5z := Aside0.mk hz_; clear hr_ hz_; have n0_ := Aside0.mk hp_; clear HP hp_; have HP := n0_; clear n0_; obtain ⟨Aw, nw, kw, fw⟩ := PS.St.at_words HP.out))
  clear hz_
  have HE := Aside0.mk (show c0.wordS.need (subB c0.wordV && ((1 : Int) == 0 || c0.wordV != 4)) 8 = c2 by rw [Ec2.out, Ec1.out])
  obtain ⟨v, hv⟩ : ∃ v, c2.wordsV 1 = [v] := by have := HO.out; rw [HE.out] at this; exact List.length_eq_one_iff.1 this
  have hvb := HBY.out v (by rw [hv]; simp)
  rw [hv] at R5 R5z HBY ⊢
  have HV := Aside0.mk hv
  clear hv
  obtain ⟨ad, rfl, hx⟩ := Kd.at_int (R5.out _ (Kept.refl _ _)) (0 : Int) (by simp) (by simp)
  have KW := Aside0.mk (show (World.setCell x3 ⟨gm, 12, none⟩ (.slice (some ad) 1 n5)).cell? ⟨gm, 12, none⟩ = some (.slice (some ad) 1 n5) from World.cell?_setCell_same _ _ _ (by rw [kw]))
  have HK := Aside0.mk (show Kept x3 (World.setCell x3 ⟨gm, 12, none⟩ (.slice (some ad) 1 n5)) (fun k => k = g ∨ k = gm ∨ k = gr) from (Kept.refl _ _).setCell (p := ⟨gm, 12, none⟩) (.inl (.inr (.inl rfl))) _)
  have HX := Aside0.mk (show ∀ W', Kept x3 W' (fun k => k = g ∨ k = gm ∨ k = gr) → W'.cell? ad = some (.int .u16 v) from fun W' hk => by
    obtain ⟨ad2, e2, hx2⟩ := Kd.at_int (R5.out W' hk) (0 : Int) (by simp) (by simp)
    injection e2 with e2
    rw [← e2] at hx2
    simpa [Addr.add, rd] using hx2)
  have hp_ := HP.out.put_words R5z.out HBY.out R5.out
  have n0_ := Aside0.mk hp_
  clear HP hp_
  have HP := n0_
  clear n0_
  clear hx
  have n0_ := Aside0.mk (((below_drew (Below.refl _ _)).cell (World.block_lt_of_cell? _ _ KW.out)).trans KW.out)
  clear KW
  have KW := n0_
  clear n0_
  have n0_ := Aside0.mk (HK.out.below (below_drew (Below.refl _ _)))
  clear HK
  have HK := n0_
  clear n0_
  have n0_ := Aside0.mk (PS.St.below HP.out (below_drew (Below.refl _ _)))
  clear HP
  have HP := n0_
  clear n0_
  have EB := Aside0.mk (show ((c2.wordsV 1).length == 1 && mayB 1 c0.wordV ((c2.wordsV 1).headD 0)) = (mayB 1 c0.wordV v) from by rw [HV.out]; rfl)
  refine start_ (n := 22) (S := fun w' => w'.cell? ⟨gm, 12, none⟩ = some (.slice (some ad) 1 n5) ∧ w'.cell? ⟨gm, 8, none⟩ = some (.int .u16 c0.wordV) ∧ w'.cell? ad = some (.int .u16 v)) (ds := []) (bm 22 0) (by as_aux_lemma => kernel_rfl) rfl (by as_aux_lemma => kernel_rfl) ⟨KW.out, (PS.St.at_sub HP.out).1, (HX.out _ HK.out)⟩ (fun hHeld => ?_)
  refine with_tabW line.tab4 line.bits4 (fun HT_ HW_ => ?_)
  refine pure_ (i := 0) (N := some 40) (v := ?_) (a' := ?_) (bm 22 1) rfl rfl (any_of HT_.out (by as_aux_lemma => kernel_rfl)) (fun _ _ _ h => h) (Or.inl ⟨by rfl, ?_⟩) ?_ ?_
  rotate_left
  · intro w'
    go_simp
    with_reducible rfl
  rotate_left
  · simp only [Act.put, List.setIfInBounds_toArray, List.set_cons_zero, List.set_cons_succ, i64_w, i32_w]
    rfl
  refine pure_ (i := 1) (N := some 41) (v := ?_) (a' := ?_) (bm 22 3) rfl rfl (any_of HT_.out (by as_aux_lemma => kernel_rfl)) (fun _ _ _ h => h) (Or.inl ⟨by rfl, ?_⟩) ?_ ?_
  rotate_left
  · intro w'
    go_simp
    with_reducible rfl
  rotate_left
  · simp only [Act.put, List.setIfInBounds_toArray, List.set_cons_zero, List.set_cons_succ, i64_w, i32_w]
    rfl
  refine pure_ (i := 2) (N := some 42) (v := ?_) (a' := ?_) (bm 22 7) rfl rfl (any_of HT_.out (by as_aux_lemma => kernel_rfl)) (fun _ _ _ h => h) (Or.inl ⟨by rfl, ?_⟩) ?_ ?_
  rotate_left
  · intro w'
    go_simp
    with_reducible rfl
  rotate_left
  · simp only [Act.put, List.setIfInBounds_toArray, List.set_cons_zero, List.set_cons_succ, i64_w, i32_w]
    rfl
  refine pure_ (i := 3) (N := some 43) (v := ?_) (a' := ?_) (bm 22 15) rfl rfl (any_of HT_.out (by as_aux_lemma => kernel_rfl)) (fun _ _ _ h => h) (Or.inl ⟨by rfl, ?_⟩) ?_ ?_
  rotate_left
  · intro w'
    go_simp
    with_reducible rfl
  rotate_left
  · simp only [Act.put, List.setIfInBounds_toArray, List.set_cons_zero, List.set_cons_succ, i64_w, i32_w]
    rfl
  refine take_ (i := 4) (N := some 44) (v := ?_) (a' := ?_) (bm 22 31) rfl rfl (take_ofW HT_.out HW_.out (by as_aux_lemma => kernel_rfl)) (fun _ _ _ h => h) (Or.inl ⟨by rfl, ?_⟩) hHeld ?_ ?_
  rotate_left
  · rintro w' ⟨s0, s1, s2⟩
    go_simp
    with_reducible rfl
  rotate_left
  · simp only [Act.put, List.setIfInBounds_toArray, List.set_cons_zero, List.set_cons_succ, i64_w, i32_w]
    rfl
  refine pure_ (i := 5) (N := some 45) (v := ?_) (a' := ?_) (bm 22 63) rfl rfl (any_of HT_.out (by as_aux_lemma => kernel_rfl)) (fun _ _ _ h => h) (Or.inl ⟨by rfl, ?_⟩) ?_ ?_
  rotate_left
  · intro w'
    go_simp
    with_reducible rfl
  rotate_left
  · simp only [Act.put, List.setIfInBounds_toArray, List.set_cons_zero, List.set_cons_succ, i64_w, i32_w]
    rfl
  refine pure_ (i := 6) (N := some 46) (v := ?_) (a' := ?_) (bm 22 127) rfl rfl (any_of HT_.out (by as_aux_lemma => kernel_rfl)) (fun _ _ _ h => h) (Or.inl ⟨by rfl, ?_⟩) ?_ ?_
  rotate_left
  · intro w'
    go_simp
    with_reducible rfl
  rotate_left
  · simp only [Act.put, List.setIfInBounds_toArray, List.set_cons_zero, List.set_cons_succ, i64_w, i32_w]
    rfl
  refine pure_ (i := 7) (N := some 47) (v := ?_) (a' := ?_) (bm 22 255) rfl rfl (any_of HT_.out (by as_aux_lemma => kernel_rfl)) (fun _ _ _ h => h) (Or.inl ⟨by rfl, ?_⟩) ?_ ?_
  rotate_left
  · intro w'
    go_simp
    with_reducible rfl
  rotate_left
  · simp only [Act.put, List.setIfInBounds_toArray, List.set_cons_zero, List.set_cons_succ, i64_w, i32_w]
    rfl
  refine pure_ (i := 8) (N := some 48) (v := ?_) (a' := ?_) (bm 22 511) rfl rfl (any_of HT_.out (by as_aux_lemma => kernel_rfl)) (fun _ _ _ h => h) (Or.inl ⟨by rfl, ?_⟩) ?_ ?_
  rotate_left
  · intro w'
    go_simp
    with_reducible rfl
  rotate_left
  · simp only [Act.put, List.setIfInBounds_toArray, List.set_cons_zero, List.set_cons_succ, i64_w, i32_w]
    rfl
  refine pure_ (i := 9) (N := some 49) (v := ?_) (a' := ?_) (bm 22 1023) rfl rfl (any_of HT_.out (by as_aux_lemma => kernel_rfl)) (fun _ _ _ h => h) (Or.inl ⟨by rfl, ?_⟩) ?_ ?_
  rotate_left
  · intro w'
    go_simp
    with_reducible rfl
  rotate_left
  · simp only [Act.put, List.setIfInBounds_toArray, List.set_cons_zero, List.set_cons_succ, i64_w, i32_w]
    rfl
  refine pure_ (i := 10) (N := some 50) (v := ?_) (a' := ?_) (bm 22 2047) rfl rfl (any_of HT_.out (by as_aux_lemma => kernel_rfl)) (fun _ _ _ h => h) (Or.inl ⟨by rfl, ?_⟩) ?_ ?_
  rotate_left
  · intro w'
    go_simp
    with_reducible rfl
  rotate_left
  · simp only [Act.put, List.setIfInBounds_toArray, List.set_cons_zero, List.set_cons_succ, i64_w, i32_w]
    rfl
  refine pure_ (i := 11) (N := some 51) (v := ?_) (a' := ?_) (bm 22 4095) rfl rfl (any_of HT_.out (by as_aux_lemma => kernel_rfl)) (fun _ _ _ h => h) (Or.inl ⟨by rfl, ?_⟩) ?_ ?_
  rotate_left
  · intro w'
    go_simp
    with_reducible rfl
  rotate_left
  · simp only [Act.put, List.setIfInBounds_toArray, List.set_cons_zero, List.set_cons_succ, i64_w, i32_w]
    rfl
  refine pure_ (i := 13) (N := some 53) (v := ?_) (a' := ?_) (bm 22 12287) rfl rfl (any_of HT_.out (by as_aux_lemma => kernel_rfl)) (fun _ _ _ h => h) (Or.inl ⟨by rfl, ?_⟩) ?_ ?_
  rotate_left
  · intro w'
    go_simp
    with_reducible rfl
  rotate_left
  · simp only [Act.put, List.setIfInBounds_toArray, List.set_cons_zero, List.set_cons_succ, i64_w, i32_w]
    rfl
  refine pure_ (i := 14) (N := some 54) (v := ?_) (a' := ?_) (bm 22 28671) rfl rfl (any_of HT_.out (by as_aux_lemma => kernel_rfl)) (fun _ _ _ h => h) (Or.inl ⟨by rfl, ?_⟩) ?_ ?_
  rotate_left
  · intro w'
    go_simp
    with_reducible rfl
  rotate_left
  · simp only [Act.put, List.setIfInBounds_toArray, List.set_cons_zero, List.set_cons_succ, i64_w, i32_w]
    rfl
  refine pure_ (i := 15) (N := some 55) (v := ?_) (a' := ?_) (bm 22 61439) rfl rfl (any_of HT_.out (by as_aux_lemma => kernel_rfl)) (fun _ _ _ h => h) (Or.inl ⟨by rfl, ?_⟩) ?_ ?_
  rotate_left
  · intro w'
    go_simp
    with_reducible rfl
  rotate_left
  · simp only [Act.put, List.setIfInBounds_toArray, List.set_cons_zero, List.set_cons_succ, i64_w, i32_w]
    rfl
  refine take_ (i := 12) (N := some 52) (v := ?_) (a' := ?_) (bm 22 65535) rfl rfl (take_ofW HT_.out HW_.out (by as_aux_lemma => kernel_rfl)) (fun _ _ _ h => h) (Or.inl ⟨by rfl, ?_⟩) hHeld ?_ ?_
  rotate_left
  · rintro w' ⟨s0, s1, s2⟩
    go_simp
    with_reducible rfl
  rotate_left
  · simp only [Act.put, List.setIfInBounds_toArray, List.set_cons_zero, List.set_cons_succ, i64_w, i32_w]
    rfl
  refine take_ (i := 16) (N := some 56) (v := ?_) (a' := ?_) (bm 22 131071) rfl rfl (take_ofW HT_.out HW_.out (by as_aux_lemma => kernel_rfl)) (fun _ _ _ h => h) (Or.inl ⟨by rfl, ?_⟩) hHeld ?_ ?_
  rotate_left
  · rintro w' ⟨s0, s1, s2⟩
    go_simp
    with_reducible rfl
  rotate_left
  · simp only [Act.put, List.setIfInBounds_toArray, List.set_cons_zero, List.set_cons_succ, i64_w, i32_w]
    rfl
  refine pure_ (i := 17) (N := some 57) (v := ?_) (a' := ?_) (bm 22 262143) rfl rfl (any_of HT_.out (by as_aux_lemma => kernel_rfl)) (fun _ _ _ h => h) (Or.inl ⟨by rfl, ?_⟩) ?_ ?_
  rotate_left
  · intro w'
    go_simp
    with_reducible rfl
  rotate_left
  · simp only [Act.put, List.setIfInBounds_toArray, List.set_cons_zero, List.set_cons_succ, i64_w, i32_w]
    rfl
  refine take_ (i := 18) (N := some 58) (v := ?_) (a' := ?_) (bm 22 524287) rfl rfl (take_ofW HT_.out HW_.out (by as_aux_lemma => kernel_rfl)) (fun _ _ _ h => h) (Or.inl ⟨by rfl, ?_⟩) hHeld ?_ ?_
  rotate_left
  · rintro w' ⟨s0, s1, s2⟩
    go_simp
    with_reducible rfl
  rotate_left
  · simp only [Act.put, List.setIfInBounds_toArray, List.set_cons_zero, List.set_cons_succ, i64_w, i32_w]
    rfl
  refine one_ (i := 19) (N := some 59) (bm 22 1048575) rfl rfl (one_of HT_.out (by as_aux_lemma => kernel_rfl)) (by as_aux_lemma => decide) (fun K hK => ?_)
  refine goes_ Try.func43 (by as_aux_lemma => kernel_rfl) rfl #[.int .i64 1, .int .u16 c0.wordV, .int .u16 v] (by rfl) rfl rfl (by simp only [List.map_toArray, List.map_cons, List.map_nil]; rfl) ?_
  with_reducible refine (may_any (.inr rfl) ⟨l0, h0⟩ hvb _).mono ?_
  rintro en x90 ⟨rfl, hb_⟩
  have n0_ := Aside0.mk ((hb_.cell (World.block_lt_of_cell? _ _ KW.out)).trans KW.out)
  clear KW
  have KW := n0_
  clear n0_
  have n0_ := Aside0.mk (HK.out.below hb_)
  clear HK
  have HK := n0_
  clear n0_
  have n0_ := Aside0.mk (PS.St.below HP.out hb_)
  clear HP
  have HP := n0_
  clear n0_
  clear hb_
  refine ⟨_, rfl, ?_⟩
  refine hK.out _ _ ⟨KW.out, (PS.St.at_sub HP.out).1, (HX.out _ HK.out)⟩ (fun hHeld => ?_)
  clear hK K
  refine norm_ (a' := ?_) ?_ ?_
  rotate_left
  · show Act.put _ (some 59) _ = _
    simp only [Act.put, List.setIfInBounds_toArray, List.set_cons_zero, List.set_cons_succ, i64_w, i32_w]
    rfl
  refine pure_ (i := 20) (N := some 60) (v := ?_) (a' := ?_) (bm 22 2097151) rfl rfl (any_of HT_.out (by as_aux_lemma => kernel_rfl)) (fun _ _ _ h => h) (Or.inl ⟨by rfl, ?_⟩) ?_ ?_
  rotate_left
  · intro w'
    go_simp
    with_reducible rfl
  rotate_left
  · simp only [Act.put, List.setIfInBounds_toArray, List.set_cons_zero, List.set_cons_succ, i64_w, i32_w]
    rfl
  refine one_ (i := 21) (N := some 61) (bm 22 4194303) rfl rfl (one_of HT_.out (by as_aux_lemma => kernel_rfl)) (by as_aux_lemma => decide) (fun K hK => ?_)
  refine goes_ Try.func40 (by as_aux_lemma => kernel_rfl) rfl #[.pointer (some ⟨g, 0, none⟩), .bool (mayB 1 c0.wordV v), .int .i64 6] (by rfl) rfl rfl (by simp only [List.map_toArray, List.map_cons, List.map_nil]; rfl) ?_
  with_reducible refine (need_k HP.out (mayB 1 c0.wordV v) 6).mono ?_
  rintro en x4 ⟨rfl, hp_, hk_⟩
  rw [← EB.out] at hp_
  have n0_ := Aside0.mk (cell_kept KW.out hk_ (fun e => hp_.h2.1 e))
  clear KW
  have KW := n0_
  clear n0_
  have n0_ := Aside0.mk (HK.out.then_ hk_ (fun k e => .inl (.inl e)))
  clear HK hk_
  have HK := n0_
  clear n0_
  obtain ⟨c4, ec_⟩ : ∃ z, z = c3.need ((c2.wordsV 1).length == 1 && mayB 1 c0.wordV ((c2.wordsV 1).headD 0)) 6 := ⟨_, rfl⟩
  rw [← ec_] at hp_
  have Ec4 := Aside0.mk ec_
  clear ec_
  have n0_ := Aside0.mk hp_
  clear HP hp_
  have HP := n0_
  clear n0_
  refine ⟨_, rfl, ?_⟩
  refine hK.out _ _ ⟨KW.out, (PS.St.at_sub HP.out).1, (HX.out _ HK.out)⟩ (fun hHeld => ?_)
  clear hK K
  refine norm_ (a' := ?_) ?_ ?_
  rotate_left
  · show Act.put _ (some 61) _ = _
    simp only [Act.put, List.setIfInBounds_toArray, List.set_cons_zero, List.set_cons_succ, i64_w, i32_w]
    rfl
  refine done_ (done_of HT_.out (by as_aux_lemma => kernel_rfl)) ?_
  go_wp2
  have eq_ : lineR 1 m c0 = (c4, { m with sub := c0.wordV, words := [v] }) := by
    simp only [lineR, ansR, eventsR, logsR, nameR, Rd.bind, Rd.byte, Rd.word, Rd.bytes, Rd.words, Rd.need, Rd.ret, leftR, ← Ec1.out, ← Ec2.out]
    rw [if_neg HZ.out]
    simp only [ansR, eventsR, logsR, nameR, Rd.bind, Rd.byte, Rd.word, Rd.bytes, Rd.words, Rd.need, Rd.ret, leftR, ← Ec3.out, ← Ec4.out]
    rw [HV.out]
  rw [eq_]
  exact bodyPost_ret (results_none rfl _ _ _) rfl (⟨rfl, HP.out⟩)
theorem line_1_0 {w0 w : World} {gr g gm : Nat} {c0 : Cu} {m : Msg} (h : PS.St w0 gr g gm w c0 m) (hz : c0.wordV ≠ 0) (ho : ((c0.wordS.need (subB c0.wordV && ((1 : Int) == 0 || c0.wordV != 4)) 8).wordsV 1).length ≠ 1) :
    Calls Try.prog 21 #[.int .i64 1, .pointer (some ⟨g, 0, none⟩), .pointer (some ⟨gm, 0, none⟩)] w fun en w' => en = .returned (.tuple #[]) ∧ PS.St w0 gr g gm w' (lineR 1 m c0).1 (lineR 1 m c0).2 := by
  have HP := Aside0.mk h
  have HZ := Aside0.mk hz
  clear h hz
  have HO := Aside0.mk ho
  clear ho
  go_enter Try.func21, Try.ntmps21
  go_upto_region 1 with (first | (go_at_call 39; obtain ⟨l0, h0⟩ := Cu.wordV_bd (PS.St.good HP.out); (with_reducible refine (PS.St.word HP.out).mono ?_); rintro en x1 ⟨rfl, hp_⟩; obtain ⟨c1, ec_⟩ : ∃ z, z = c0.wordS := ⟨_, rfl⟩; rw [← ec_] at hp_; have Ec1 := Aside0.mk ec_; clear ec_; obtain ⟨ksub, fsub⟩ := PS.St.at_sub hp_; have n0_ := Aside0.mk hp_; clear HP hp_; have HP := n0_; clear n0_))
  have hp_ := HP.out.put_sub ⟨l0, h0⟩
  have n0_ := Aside0.mk hp_
  clear HP hp_
  have HP := n0_
  clear n0_
  have HWF := Aside0.mk (show (Lit.int .u16 c0.wordV).wf = true from by simp [Lit.wf, IntKind.min, IntKind.max, IntKind.signed, IntKind.bits]; omega)
  obtain ⟨c2, e_⟩ : ∃ z, z = c1.need (subB c0.wordV && ((1 : Int) == 0 || c0.wordV != 4)) 8 := ⟨_, rfl⟩
  have Ec2 := Aside0.mk e_
  clear e_
  obtain ⟨ksub, fsub⟩ := PS.St.at_sub HP.out
  go_cut [] from 12 to 30 (fun wx => Aside0 (PS.St w0 gr g gm wx c2 ({ m with sub := c0.wordV })))
  case first =>
    cases hs0_ : (subB c0.wordV) with
    | true =>
      have eb_ : (subB c0.wordV && ((1 : Int) == 0 || c0.wordV != 4)) = (c0.wordV != 4) := by first | (simp only [hs0_]; first | rfl | (simp; done)) | (simp [hs0_]; done) | (simp only [bne, hs0_]; first | rfl | (simp; done))
      have EB_ := Aside0.mk eb_
      clear eb_
      go_wp2_with (first | (go_at_call 41; (with_reducible refine (sub_c HWF.out _).mono ?_); rintro en xb ⟨rfl, hb_⟩; have n0_ := Aside0.mk (PS.St.below HP.out hb_); clear HP hb_; have HP := n0_; clear n0_; obtain ⟨ksub, fsub⟩ := PS.St.at_sub HP.out) | (go_at_call 40; (with_reducible refine (PS.St.need HP.out (c0.wordV != 4) 8).mono ?_); rintro en x2 ⟨rfl, hp_⟩; have n0_ := Aside0.mk hp_; clear HP hp_; have HP := n0_; clear n0_))
      go_meet
      rw [Ec2.out, EB_.out]
      exact HP
    | false =>
      have eb_ : (subB c0.wordV && ((1 : Int) == 0 || c0.wordV != 4)) = (false) := by first | (simp only [hs0_]; first | rfl | (simp; done)) | (simp [hs0_]; done) | (simp only [bne, hs0_]; first | rfl | (simp; done))
      have EB_ := Aside0.mk eb_
      clear eb_
      go_wp2_with (first | (go_at_call 41; (with_reducible refine (sub_c HWF.out _).mono ?_); rintro en xb ⟨rfl, hb_⟩; have n0_ := Aside0.mk (PS.St.below HP.out hb_); clear HP hb_; have HP := n0_; clear n0_; obtain ⟨ksub, fsub⟩ := PS.St.at_sub HP.out) | (go_at_call 40; (with_reducible refine (PS.St.need HP.out (false) 8).mono ?_); rintro en x2 ⟨rfl, hp_⟩; have n0_ := Aside0.mk hp_; clear HP hp_; have HP := n0_; clear n0_))
      go_meet
      rw [Ec2.out, EB_.out]
      exact HP
  case rest =>
  clear HP
  have HP := hcut
  clear hcut
  have hz_ : (c0.wordV != 0) = true := by simpa using HZ.out
  obtain ⟨ksub, fsub⟩ := PS.St.at_sub HP.out
  have HBY := Aside0.mk (Cu.wordsV_bd (PS.St.good HP.out) 1)
  go_upto_region 4 with (first | (go_at_call 42; (with_reducible refine (PS.St.words HP.out (1)).mono ?_); rintro en x3 ⟨A5, n5, rfl, hz_, hr_, hp_⟩; obtain ⟨c3, ec_⟩ : ∃ z, z = c2.wordsS (1) := ⟨_, rfl⟩; rw [← ec_] at hp_; have Ec3 := Aside0.mk ec_; clear ec_; have R5 := Aside0.mk hr_; have R5z := Aside0.mk hz_; clear hr_ hz_; have n0_ := Aside0.mk hp_; clear HP hp_; have HP := n0_; clear n0_; obtain ⟨Aw, nw, kw, fw⟩ := PS.St.at_words HP.out))
  clear hz_
  have HE := Aside0.mk (show c0.wordS.need (subB c0.wordV && ((1 : Int) == 0 || c0.wordV != 4)) 8 = c2 by rw [Ec2.out, Ec1.out])
  have KW := Aside0.mk (show (World.setCell x3 ⟨gm, 12, none⟩ (.slice A5 (c2.wordsV 1).length n5)).cell? ⟨gm, 12, none⟩ = some (.slice A5 (c2.wordsV 1).length n5) from World.cell?_setCell_same _ _ _ (by rw [kw]))
  have HK := Aside0.mk (show Kept x3 (World.setCell x3 ⟨gm, 12, none⟩ (.slice A5 (c2.wordsV 1).length n5)) (fun k => k = g ∨ k = gm ∨ k = gr) from (Kept.refl _ _).setCell (p := ⟨gm, 12, none⟩) (.inl (.inr (.inl rfl))) _)
  have hp_ := HP.out.put_words R5z.out HBY.out R5.out
  have n0_ := Aside0.mk hp_
  clear HP hp_
  have HP := n0_
  clear n0_
  have n0_ := Aside0.mk (((below_drew (Below.refl _ _)).cell (World.block_lt_of_cell? _ _ KW.out)).trans KW.out)
  clear KW
  have KW := n0_
  clear n0_
  have n0_ := Aside0.mk (HK.out.below (below_drew (Below.refl _ _)))
  clear HK
  have HK := n0_
  clear n0_
  have n0_ := Aside0.mk (PS.St.below HP.out (below_drew (Below.refl _ _)))
  clear HP
  have HP := n0_
  clear n0_
  have EB := Aside0.mk (show ((c2.wordsV 1).length == 1 && mayB 1 c0.wordV ((c2.wordsV 1).headD 0)) = (false) from by rw [show ((c2.wordsV 1).length == 1) = false from beq_eq_false_iff_ne.2 (by have := HO.out; rw [HE.out] at this; exact this)]; rfl)
  have hl1 : ((((c2.wordsV 1).length : Nat) : Int) == 1) = false := beq_eq_false_iff_ne.2 (by have := HO.out; rw [HE.out] at this; omega)
  refine start_ (n := 22) (S := fun w' => w'.cell? ⟨gm, 12, none⟩ = some (.slice A5 (c2.wordsV 1).length n5)) (ds := []) (bm 22 0) (by as_aux_lemma => kernel_rfl) rfl (by as_aux_lemma => kernel_rfl) (KW.out) (fun hHeld => ?_)
  refine with_tabW line.tab4 line.bits4 (fun HT_ HW_ => ?_)
  refine pure_ (i := 0) (N := some 40) (v := ?_) (a' := ?_) (bm 22 1) rfl rfl (any_of HT_.out (by as_aux_lemma => kernel_rfl)) (fun _ _ _ h => h) (Or.inl ⟨by rfl, ?_⟩) ?_ ?_
  rotate_left
  · intro w'
    go_simp
    with_reducible rfl
  rotate_left
  · simp only [Act.put, List.setIfInBounds_toArray, List.set_cons_zero, List.set_cons_succ, i64_w, i32_w]
    rfl
  refine pure_ (i := 1) (N := some 41) (v := ?_) (a' := ?_) (bm 22 3) rfl rfl (any_of HT_.out (by as_aux_lemma => kernel_rfl)) (fun _ _ _ h => h) (Or.inl ⟨by rfl, ?_⟩) ?_ ?_
  rotate_left
  · intro w'
    go_simp
    with_reducible rfl
  rotate_left
  · simp only [Act.put, List.setIfInBounds_toArray, List.set_cons_zero, List.set_cons_succ, i64_w, i32_w]
    rfl
  refine pure_ (i := 2) (N := some 42) (v := ?_) (a' := ?_) (bm 22 7) rfl rfl (any_of HT_.out (by as_aux_lemma => kernel_rfl)) (fun _ _ _ h => h) (Or.inl ⟨by rfl, ?_⟩) ?_ ?_
  rotate_left
  · intro w'
    go_simp
    with_reducible rfl
  rotate_left
  · simp only [Act.put, List.setIfInBounds_toArray, List.set_cons_zero, List.set_cons_succ, i64_w, i32_w]
    rfl
  refine pure_ (i := 3) (N := some 43) (v := ?_) (a' := ?_) (bm 22 15) rfl rfl (any_of HT_.out (by as_aux_lemma => kernel_rfl)) (fun _ _ _ h => h) (Or.inl ⟨by rfl, ?_⟩) ?_ ?_
  rotate_left
  · intro w'
    go_simp
    with_reducible rfl
  rotate_left
  · simp only [Act.put, List.setIfInBounds_toArray, List.set_cons_zero, List.set_cons_succ, i64_w, i32_w]
    rfl
  refine take_ (i := 4) (N := some 44) (v := ?_) (a' := ?_) (bm 22 31) rfl rfl (take_ofW HT_.out HW_.out (by as_aux_lemma => kernel_rfl)) (fun _ _ _ h => h) (Or.inl ⟨by rfl, ?_⟩) hHeld ?_ ?_
  rotate_left
  · intro w' s0
    go_simp
    with_reducible rfl
  rotate_left
  · simp only [Act.put, List.setIfInBounds_toArray, List.set_cons_zero, List.set_cons_succ, i64_w, i32_w]
    rfl
  refine pure_ (i := 5) (N := some 45) (v := ?_) (a' := ?_) (bm 22 63) rfl rfl (any_of HT_.out (by as_aux_lemma => kernel_rfl)) (fun _ _ _ h => h) (Or.inl ⟨by rfl, ?_⟩) ?_ ?_
  rotate_left
  · intro w'
    go_simp
    with_reducible rfl
  rotate_left
  · simp only [Act.put, List.setIfInBounds_toArray, List.set_cons_zero, List.set_cons_succ, i64_w, i32_w]
    rfl
  refine pure_ (i := 6) (N := some 46) (v := ?_) (a' := ?_) (bm 22 127) rfl rfl (any_of HT_.out (by as_aux_lemma => kernel_rfl)) (fun _ _ _ h => h) (Or.inl ⟨by rfl, ?_⟩) ?_ ?_
  rotate_left
  · intro w'
    go_simp
    with_reducible rfl
  rotate_left
  · simp only [Act.put, List.setIfInBounds_toArray, List.set_cons_zero, List.set_cons_succ, i64_w, i32_w]
    rfl
  refine pure_ (i := 7) (N := some 47) (v := ?_) (a' := ?_) (bm 22 255) rfl rfl (any_of HT_.out (by as_aux_lemma => kernel_rfl)) (fun _ _ _ h => h) (Or.inl ⟨by rfl, ?_⟩) ?_ ?_
  rotate_left
  · intro w'
    go_simp
    with_reducible rfl
  rotate_left
  · simp only [Act.put, List.setIfInBounds_toArray, List.set_cons_zero, List.set_cons_succ, i64_w, i32_w]
    rfl
  refine pure_ (i := 8) (N := some 48) (v := undef) (a' := ?_) (bm 22 511) rfl rfl (any_of HT_.out (by as_aux_lemma => kernel_rfl)) (fun _ _ _ h => h) (Or.inr ⟨by rfl, rfl⟩) ?_ ?_
  rotate_left
  · simp only [Act.put, List.setIfInBounds_toArray, List.set_cons_zero, List.set_cons_succ, i64_w, i32_w]
    rfl
  refine pure_ (i := 9) (N := some 49) (v := undef) (a' := ?_) (bm 22 1023) rfl rfl (any_of HT_.out (by as_aux_lemma => kernel_rfl)) (fun _ _ _ h => h) (Or.inr ⟨by rfl, rfl⟩) ?_ ?_
  rotate_left
  · simp only [Act.put, List.setIfInBounds_toArray, List.set_cons_zero, List.set_cons_succ, i64_w, i32_w]
    rfl
  refine pure_ (i := 10) (N := some 50) (v := undef) (a' := ?_) (bm 22 2047) rfl rfl (any_of HT_.out (by as_aux_lemma => kernel_rfl)) (fun _ _ _ h => h) (Or.inr ⟨by rfl, rfl⟩) ?_ ?_
  rotate_left
  · simp only [Act.put, List.setIfInBounds_toArray, List.set_cons_zero, List.set_cons_succ, i64_w, i32_w]
    rfl
  refine pure_ (i := 11) (N := some 51) (v := undef) (a' := ?_) (bm 22 4095) rfl rfl (any_of HT_.out (by as_aux_lemma => kernel_rfl)) (fun _ _ _ h => h) (Or.inr ⟨by rfl, rfl⟩) ?_ ?_
  rotate_left
  · simp only [Act.put, List.setIfInBounds_toArray, List.set_cons_zero, List.set_cons_succ, i64_w, i32_w]
    rfl
  refine pure_ (i := 12) (N := some 52) (v := undef) (a' := ?_) (bm 22 8191) rfl rfl (any_of HT_.out (by as_aux_lemma => kernel_rfl)) (fun _ _ _ h => h) (Or.inr ⟨by rfl, rfl⟩) ?_ ?_
  rotate_left
  · simp only [Act.put, List.setIfInBounds_toArray, List.set_cons_zero, List.set_cons_succ, i64_w, i32_w]
    rfl
  refine pure_ (i := 13) (N := some 53) (v := undef) (a' := ?_) (bm 22 16383) rfl rfl (any_of HT_.out (by as_aux_lemma => kernel_rfl)) (fun _ _ _ h => h) (Or.inr ⟨by rfl, rfl⟩) ?_ ?_
  rotate_left
  · simp only [Act.put, List.setIfInBounds_toArray, List.set_cons_zero, List.set_cons_succ, i64_w, i32_w]
    rfl
  refine pure_ (i := 14) (N := some 54) (v := undef) (a' := ?_) (bm 22 32767) rfl rfl (any_of HT_.out (by as_aux_lemma => kernel_rfl)) (fun _ _ _ h => h) (Or.inr ⟨by rfl, rfl⟩) ?_ ?_
  rotate_left
  · simp only [Act.put, List.setIfInBounds_toArray, List.set_cons_zero, List.set_cons_succ, i64_w, i32_w]
    rfl
  refine pure_ (i := 15) (N := some 55) (v := undef) (a' := ?_) (bm 22 65535) rfl rfl (any_of HT_.out (by as_aux_lemma => kernel_rfl)) (fun _ _ _ h => h) (Or.inr ⟨by rfl, rfl⟩) ?_ ?_
  rotate_left
  · simp only [Act.put, List.setIfInBounds_toArray, List.set_cons_zero, List.set_cons_succ, i64_w, i32_w]
    rfl
  refine pure_ (i := 16) (N := some 56) (v := undef) (a' := ?_) (bm 22 131071) rfl rfl (any_of HT_.out (by as_aux_lemma => kernel_rfl)) (fun _ _ _ h => h) (Or.inr ⟨by rfl, rfl⟩) ?_ ?_
  rotate_left
  · simp only [Act.put, List.setIfInBounds_toArray, List.set_cons_zero, List.set_cons_succ, i64_w, i32_w]
    rfl
  refine pure_ (i := 17) (N := some 57) (v := undef) (a' := ?_) (bm 22 262143) rfl rfl (any_of HT_.out (by as_aux_lemma => kernel_rfl)) (fun _ _ _ h => h) (Or.inr ⟨by rfl, rfl⟩) ?_ ?_
  rotate_left
  · simp only [Act.put, List.setIfInBounds_toArray, List.set_cons_zero, List.set_cons_succ, i64_w, i32_w]
    rfl
  refine pure_ (i := 18) (N := some 58) (v := undef) (a' := ?_) (bm 22 524287) rfl rfl (any_of HT_.out (by as_aux_lemma => kernel_rfl)) (fun _ _ _ h => h) (Or.inr ⟨by rfl, rfl⟩) ?_ ?_
  rotate_left
  · simp only [Act.put, List.setIfInBounds_toArray, List.set_cons_zero, List.set_cons_succ, i64_w, i32_w]
    rfl
  refine pure_ (i := 19) (N := some 59) (v := undef) (a' := ?_) (bm 22 1048575) rfl rfl (any_of HT_.out (by as_aux_lemma => kernel_rfl)) (fun _ _ _ h => h) (Or.inr ⟨by rfl, rfl⟩) ?_ ?_
  rotate_left
  · simp only [Act.put, List.setIfInBounds_toArray, List.set_cons_zero, List.set_cons_succ, i64_w, i32_w]
    rfl
  refine pure_ (i := 20) (N := some 60) (v := ?_) (a' := ?_) (bm 22 2097151) rfl rfl (any_of HT_.out (by as_aux_lemma => kernel_rfl)) (fun _ _ _ h => h) (Or.inl ⟨by rfl, ?_⟩) ?_ ?_
  rotate_left
  · intro w'
    go_simp
    with_reducible rfl
  rotate_left
  · simp only [Act.put, List.setIfInBounds_toArray, List.set_cons_zero, List.set_cons_succ, i64_w, i32_w]
    rfl
  refine one_ (i := 21) (N := some 61) (bm 22 4194303) rfl rfl (one_of HT_.out (by as_aux_lemma => kernel_rfl)) (by as_aux_lemma => decide) (fun K hK => ?_)
  refine goes_ Try.func40 (by as_aux_lemma => kernel_rfl) rfl #[.pointer (some ⟨g, 0, none⟩), .bool (false), .int .i64 6] (by rfl) rfl rfl (by simp only [List.map_toArray, List.map_cons, List.map_nil]; rfl) ?_
  with_reducible refine (need_k HP.out (false) 6).mono ?_
  rintro en x4 ⟨rfl, hp_, hk_⟩
  rw [← EB.out] at hp_
  have n0_ := Aside0.mk (cell_kept KW.out hk_ (fun e => hp_.h2.1 e))
  clear KW
  have KW := n0_
  clear n0_
  have n0_ := Aside0.mk (HK.out.then_ hk_ (fun k e => .inl (.inl e)))
  clear HK hk_
  have HK := n0_
  clear n0_
  obtain ⟨c4, ec_⟩ : ∃ z, z = c3.need ((c2.wordsV 1).length == 1 && mayB 1 c0.wordV ((c2.wordsV 1).headD 0)) 6 := ⟨_, rfl⟩
  rw [← ec_] at hp_
  have Ec4 := Aside0.mk ec_
  clear ec_
  have n0_ := Aside0.mk hp_
  clear HP hp_
  have HP := n0_
  clear n0_
  refine ⟨_, rfl, ?_⟩
  refine hK.out _ _ (KW.out) (fun hHeld => ?_)
  clear hK K
  refine norm_ (a' := ?_) ?_ ?_
  rotate_left
  · show Act.put _ (some 61) _ = _
    simp only [Act.put, List.setIfInBounds_toArray, List.set_cons_zero, List.set_cons_succ, i64_w, i32_w]
    rfl
  refine done_ (done_of HT_.out (by as_aux_lemma => kernel_rfl)) ?_
  go_wp2
  have eq_ : lineR 1 m c0 = (c4, { m with sub := c0.wordV, words := c2.wordsV 1 }) := by
    simp only [lineR, ansR, eventsR, logsR, nameR, Rd.bind, Rd.byte, Rd.word, Rd.bytes, Rd.words, Rd.need, Rd.ret, leftR, ← Ec1.out, ← Ec2.out]
    rw [if_neg HZ.out]
    simp only [ansR, eventsR, logsR, nameR, Rd.bind, Rd.byte, Rd.word, Rd.bytes, Rd.words, Rd.need, Rd.ret, leftR, ← Ec3.out, ← Ec4.out]
  rw [eq_]
  exact bodyPost_ret (results_none rfl _ _ _) rfl (⟨rfl, HP.out⟩)
theorem line_1 {w0 w : World} {gr g gm : Nat} {c0 : Cu} {m : Msg} (h : PS.St w0 gr g gm w c0 m) : Calls Try.prog 21 #[.int .i64 1, .pointer (some ⟨g, 0, none⟩), .pointer (some ⟨gm, 0, none⟩)] w fun en w' => en = .returned (.tuple #[]) ∧ PS.St w0 gr g gm w' (lineR 1 m c0).1 (lineR 1 m c0).2 := by
  by_cases hz : c0.wordV = 0
  · exact line_1_e h hz
  by_cases ho : ((c0.wordS.need (subB c0.wordV && ((1 : Int) == 0 || c0.wordV != 4)) 8).wordsV 1).length = 1
  · exact line_1_1 h hz ho
  · exact line_1_0 h hz ho
end Go.Proofs.Ytalaochocmcbcaa.Diag
end
section
namespace Go.Proofs.Ytalaochocmcbcaa.Diag
open Go.RowKit Go.Proofs.Ytalaochocmcbcaa.P Go.Proofs.Ytalaochocmcbcaa.E Go.Proofs.Ytalaochocmcbcaa.Cur Go.Proofs.Ytalaochocmcbcaa.Cu Go.Proofs.Ytalaochocmcbcaa.Same Go.Proofs.Ytalaochocmcbcaa.Code Go.Proofs.YtalaochocmcbcaaW.PrintWords Go.Proofs.YtalaochocmcbcaaW.PrintLast Go.Proofs.YtalaochocmcbcaaW.PrintMore
theorem St_first {w0 w1 w2 w3 : World} {gr gm g : Nat} {cx : Array Value} {m : Msg} {c : Cu} (hg : gr = w0.heap.size) (hk : w1.heap[gr]? = some (.cells zeroC 30 (0, 0))) (hb : Below w0.heap.size w0 w1) (hm : gm = w1.heap.size) (hk2 : w2.heap[gm]? = some (.cells cx 30 (0, 0))) (hb2 : Below w1.heap.size w1 w2) (M : ∀ W, IsMsg W cx m) (nl : NilL cx)
    (h1 : w2.heap.size ≤ g) (hc : PAt w2.heap.size g w3 g c) (h2 : Below w2.heap.size w2 w3) : PS.St w0 gr g gm w3 c m := by
  have l1 := blk_lt hk
  have l2 := blk_lt hk2
  have s0 := hb.size
  have s1 := hb2.size
  exact ⟨hb.trans ((hb2.mono hb.size).trans (h2.mono (Nat.le_trans hb.size hb2.size))), ⟨w2.heap.size, g, hc, .inl l2, .inl (by omega)⟩, ⟨cx, blk_below hk2 h2, fun W' _ => M W'⟩, blk_below (blk_below hk hb2) h2, ⟨by omega, by omega, by omega⟩, ⟨by omega, by omega, by omega⟩, ⟨cx, blk_below hk2 h2, nl⟩⟩
theorem parse_dir {A : Option Addr} {c : Nat} {l : List Int} {w0 : World} (hr : Kd.C (Kd.int .u8) w0 A l.length l) (hc : l.length ≤ c) (hs : l.length ≤ 1000000) (hb : isBytes l) {dir code : Int} (h0 : dir ≠ 0) (h1 : dir ≠ 1) :
    Calls Try.prog 12 #[.int .i64 dir, .int .u8 code, .slice A l.length c] w0 fun en w' => ∃ cx, en = .returned (.tuple #[.agg cx, .int .i64 1]) ∧ IsMsg w' cx zeroM ∧ Below w0.heap.size w0 w' := by
  clear hr hc hs hb
  have H := Aside0.mk (Held.start w0)
  have e0 : (dir != 0) = true := by simpa using h0
  have e1 : (dir != 1) = true := by simpa using h1
  have e0' : (dir == 0) = false := by simpa using h0
  have e1' : (dir == 1) = false := by simpa using h1
  clear h0 h1
  go_enter Try.func12, Try.ntmps12
  go_wp2_with (first | ((with_reducible refine gate_dst (N := 6) rfl ?_); refine ev_alloc rfl rfl ?_; intro g w1 hg_ h1_ h2_; have n0_ := Aside0.mk (H.out.new hg_ h1_ h2_); clear H; have H := n0_; clear n0_; clear h1_ h2_ hg_) | ((with_reducible refine gate_dst (N := 17) rfl ?_); refine ev_build (zeroC) rfl (by go_simp; first | rfl | done) ?_; intro cx hcx_; have M := Aside0.mk (show ∀ W, IsMsg W cx _ from fun W => by rw [hcx_]; exact zero_is W); clear hcx_) | ((with_reducible refine gate_op (u := .store 30 (.tmp 6) (.tmp 17)) rfl ?_); refine ev_store rfl rfl rfl rfl H.out (i := 0) rfl (rfl) (M.out w0) ?_; intro w2 h3_ h4_; have n0_ := Aside0.mk (h3_); clear H; have H := n0_; clear n0_; clear h3_ h4_))
  refine bodyPost_ret (results_ct rfl _ _ g 30 cx (0, 0) _ rfl (H.out.at 0 rfl) Try.underlying30 rfl (msg_info ((M.out w0).size))) rfl (⟨cx, rfl, M.out _, H.out.b⟩)
theorem parse_no0 {A : Option Addr} {c : Nat} {l : List Int} {w0 : World} (hr : Kd.C (Kd.int .u8) w0 A l.length l) (hc : l.length ≤ c) (hs : l.length ≤ 1000000) (hb : isBytes l) {code : Int} (hcd : 0 ≤ code ∧ code < 256) (hk : ¬ isCode code) :
    Calls Try.prog 12 #[.int .i64 0, .int .u8 code, .slice A l.length c] w0 fun en w' => ∃ cx, en = .returned (.tuple #[.agg cx, .int .i64 4]) ∧ IsMsg w' cx zeroM ∧ Below w0.heap.size w0 w' := by
  have HR := Aside0.mk hr
  have HC := Aside0.mk hc
  have HS := Aside0.mk hs
  have HBB := Aside0.mk hb
  clear hr hc hs hb
  have HKB := Aside0.mk hcd
  clear hcd
  have b7 : (code == 7) = false := beq_eq_false_iff_ne.2 (fun e => hk (by unfold isCode; omega))
  have c7 : (code != 7) = true := by rw [bne, b7]; rfl
  have b8 : (code == 8) = false := beq_eq_false_iff_ne.2 (fun e => hk (by unfold isCode; omega))
  have c8 : (code != 8) = true := by rw [bne, b8]; rfl
  have b11 : (code == 11) = false := beq_eq_false_iff_ne.2 (fun e => hk (by unfold isCode; omega))
  have c11 : (code != 11) = true := by rw [bne, b11]; rfl
  have b12 : (code == 12) = false := beq_eq_false_iff_ne.2 (fun e => hk (by unfold isCode; omega))
  have c12 : (code != 12) = true := by rw [bne, b12]; rfl
  have b17 : (code == 17) = false := beq_eq_false_iff_ne.2 (fun e => hk (by unfold isCode; omega))
  have c17 : (code != 17) = true := by rw [bne, b17]; rfl
  clear hk
  go_enter Try.func12, Try.ntmps12
  go_upto_region 3 with (first | ((with_reducible refine gate_dst (N := 6) rfl ?_); refine ev_alloc rfl rfl ?_; intro gr w1 hg_ h1_ h2_; have HG := Aside0.mk hg_; have H1 := Aside0.mk h1_; have H2 := Aside0.mk h2_; clear hg_ h1_ h2_))
  go_upto_region 4 with (first | ((with_reducible refine gate_dst (N := 19) rfl ?_); refine ev_build ((zeroC.setIfInBounds 0 (.int .u8 (code)))) rfl (by go_simp; first | rfl | done) ?_; intro cx hcx_; have M := Aside0.mk (show ∀ W, IsMsg W cx _ from fun W => by rw [hcx_]; exact (fun W => set_code (zero_is W) (v := code) ⟨by have := HKB.out; omega, by have := HKB.out; omega⟩) W); have NL := Aside0.mk (show NilL cx by rw [hcx_]; exact PS.zero_nil.set (by decide)); clear hcx_) | ((with_reducible refine gate_dst (N := 8) rfl ?_); refine ev_var (y := .tmp 19) rfl rfl rfl rfl rfl (M.out w0) rfl rfl ?_; intro gm w2 hg_ h1_ hb_; have HM1 := Aside0.mk hg_; have HM2 := Aside0.mk h1_; have HM3 := Aside0.mk hb_; clear h1_ hb_ hg_))
  go_upto_region 5 with (first | (go_at_call 20; (with_reducible refine (p_new A c l _ (Kd.C_below HR.out (H2.out.trans (HM3.out.mono H2.out.size))) HC.out HS.out HBB.out).mono ?_); rintro en w3 ⟨g, rfl, q1_, q2_, q3_, q4_⟩; have HP := Aside0.mk (St_first HG.out H1.out H2.out HM1.out HM2.out HM3.out M.out NL.out q1_ q2_ q3_); clear q1_ q2_ q3_ q4_ H1 H2 HG HM1 HM2 HM3))
  have H := Aside0.mk (PS.St.held HP.out)
  clear HP M NL
  go_wp2_with (first | ((with_reducible refine gate_dst (N := 23) rfl ?_); refine ev_build (zeroC) rfl (by go_simp; first | rfl | done) ?_; intro cx hcx_; have M := Aside0.mk (show ∀ W, IsMsg W cx _ from fun W => by rw [hcx_]; exact zero_is W); clear hcx_) | ((with_reducible refine gate_op (u := .store 30 (.tmp 6) (.tmp 23)) rfl ?_); refine ev_store rfl rfl rfl rfl H.out (i := 0) rfl (rfl) (M.out w0) ?_; intro w99 h3_ h4_; have n0_ := Aside0.mk (h3_); clear H; have H := n0_; clear n0_; clear h3_ h4_))
  refine bodyPost_ret (results_ct rfl _ _ gr 30 _ (0, 0) _ rfl (H.out.at 0 rfl) Try.underlying30 rfl (msg_info ((M.out w0).size))) rfl (⟨_, rfl, M.out _, H.out.b⟩)
theorem parse_0_7 {A : Option Addr} {c : Nat} {l : List Int} {w0 : World} (hr : Kd.C (Kd.int .u8) w0 A l.length l) (hc : l.length ≤ c) (hs : l.length ≤ 1000000) (hb : isBytes l) :
    Calls Try.prog 12 #[.int .i64 0, .int .u8 7, .slice A l.length c] w0 fun en w' => ∃ cx, en = .returned (.tuple #[.agg cx, .int .i64 (parse 0 7 l).2]) ∧ IsMsg w' cx (parse 0 7 l).1 ∧ Below w0.heap.size w0 w' := by
  have HR := Aside0.mk hr
  have HC := Aside0.mk hc
  have HS := Aside0.mk hs
  have HBB := Aside0.mk hb
  clear hr hc hs hb
  go_enter Try.func12, Try.ntmps12
  go_upto_region 3 with (first | ((with_reducible refine gate_dst (N := 6) rfl ?_); refine ev_alloc rfl rfl ?_; intro gr w1 hg_ h1_ h2_; have HG := Aside0.mk hg_; have H1 := Aside0.mk h1_; have H2 := Aside0.mk h2_; clear hg_ h1_ h2_))
  go_upto_region 4 with (first | ((with_reducible refine gate_dst (N := 19) rfl ?_); refine ev_build ((zeroC.setIfInBounds 0 (.int .u8 (7)))) rfl (by go_simp; first | rfl | done) ?_; intro cx hcx_; have M := Aside0.mk (show ∀ W, IsMsg W cx _ from fun W => by rw [hcx_]; exact (fun W => set_code (zero_is W) (v := 7) (by decide)) W); have NL := Aside0.mk (show NilL cx by rw [hcx_]; exact PS.zero_nil.set (by decide)); clear hcx_) | ((with_reducible refine gate_dst (N := 8) rfl ?_); refine ev_var (y := .tmp 19) rfl rfl rfl rfl rfl (M.out w0) rfl rfl ?_; intro gm w2 hg_ h1_ hb_; have HM1 := Aside0.mk hg_; have HM2 := Aside0.mk h1_; have HM3 := Aside0.mk hb_; clear h1_ hb_ hg_))
  go_upto_region 5 with (first | (go_at_call 20; (with_reducible refine (p_new A c l _ (Kd.C_below HR.out (H2.out.trans (HM3.out.mono H2.out.size))) HC.out HS.out HBB.out).mono ?_); rintro en w3 ⟨g, rfl, q1_, q2_, q3_, q4_⟩; have HP := Aside0.mk (St_first HG.out H1.out H2.out HM1.out HM2.out HM3.out M.out NL.out q1_ q2_ q3_); clear q1_ q2_ q3_ q4_ H1 H2 HG HM1 HM2 HM3))
  obtain ⟨m0, hm0⟩ : ∃ z, z = ({ zeroM with code := 7 } : Msg) := ⟨_, rfl⟩
  rw [← hm0] at HP
  have HM0 := Aside0.mk hm0
  have HMC := Aside0.mk (show m0.code = 7 by rw [hm0])
  clear hm0 M NL
  go_upto_region 15 with (fail)
  obtain ⟨c9, e9_⟩ : ∃ z, z = (⟨l, false, 0⟩ : Cu) := ⟨_, rfl⟩
  rw [← e9_] at HP
  have HP2 : Aside0 (PS.St w0 gr g gm _ c9 m0) := HP
  clear HP
  have HP := HP2
  clear HP2
  have e2 : bodyR 0 m0 (cu l) = (c9, m0) := by unfold bodyR; rw [if_neg (by have := HMC.out; omega), if_neg (by decide), e9_]; rfl
  clear e9_
  have E2 := Aside0.mk e2
  clear e2
  go_upto_region 16 with (first | (go_at_call 23; (with_reducible refine (PS.St.fin HP.out).mono ?_); rintro en x1 ⟨rfl, hp_⟩; obtain ⟨c10, ec_⟩ : ∃ z, z = c9.fin := ⟨_, rfl⟩; rw [← ec_] at hp_; have Ec10 := Aside0.mk ec_; clear ec_; have n0_ := Aside0.mk hp_; clear HP hp_; have HP := n0_; clear n0_))
  go_upto_region 17 with (first | (go_at_call 24; (with_reducible refine (PS.St.err HP.out).mono ?_); rintro en x2 ⟨rfl, hp_⟩; have n0_ := Aside0.mk hp_; clear HP hp_; have HP := n0_; clear n0_))
  have he1 : parse 0 7 l = if c10.e ≠ 0 then (zeroM, c10.e) else (m0, 0) := by
    unfold parse
    rw [if_neg (by decide), if_neg (by decide), ← HM0.out, E2.out, Ec10.out]
  by_cases h9 : c10.e = 0
  · have ex_ : parse 0 7 l = (m0, 0) := by rw [he1, if_neg (fun h => h h9)]
    have EX := Aside0.mk ex_
    have g1 : (c10.e != 0) = false := by rw [h9]; rfl
    have g2 : (c10.e == 0) = true := by rw [h9]; rfl
    clear h9 ex_ he1
    obtain ⟨cx, h_, hz_, hm_⟩ := PS.St.held2 HP.out
    have H := Aside0.mk h_
    have HZ := Aside0.mk hz_
    have HM := Aside0.mk hm_
    have HB := Aside0.mk HP.out.b
    clear h_ hz_ hm_ HP
    go_wp2_with (first | ((with_reducible refine gate_dst (N := 46) rfl ?_); refine ev_load (x := .tmp 8) rfl rfl rfl H.out (i := 1) rfl (HZ.out) ?_) | ((with_reducible refine gate_op (u := .store 30 (.tmp 6) (.tmp 46)) rfl ?_); refine ev_store rfl rfl rfl rfl H.out (i := 0) rfl rfl (HM.out _ ⟨rfl, rfl, rfl, Kept.refl _ _⟩) ?_; intro x91 h3_ h4_; have HE := Aside0.mk (HM.out _ h4_); clear h4_; have n0_ := Aside0.mk (h3_); clear H; have H := n0_; clear n0_; clear h3_))
    refine bodyPost_ret (results_ct rfl _ _ gr 30 _ (0, 0) _ rfl (H.out.at 0 rfl) Try.underlying30 rfl (msg_info (HZ.out))) rfl (by rw [EX.out]; exact ⟨_, rfl, HE.out, H.out.b⟩)
  · have ex_ : parse 0 7 l = (zeroM, c10.e) := by rw [he1, if_pos h9]
    have EX := Aside0.mk ex_
    have g1 : (c10.e != 0) = true := by simpa using h9
    have g2 : (c10.e == 0) = false := by simpa using h9
    clear h9 ex_ he1
    have H := Aside0.mk (PS.St.held HP.out)
    clear HP
    go_wp2_with (first | ((with_reducible refine gate_dst (N := 44) rfl ?_); refine ev_build (zeroC) rfl (by go_simp; first | rfl | done) ?_; intro cx hcx_; have M := Aside0.mk (show ∀ W, IsMsg W cx _ from fun W => by rw [hcx_]; exact zero_is W); clear hcx_) | ((with_reducible refine gate_op (u := .store 30 (.tmp 6) (.tmp 44)) rfl ?_); refine ev_store rfl rfl rfl rfl H.out (i := 0) rfl (rfl) (M.out w0) ?_; intro x90 h3_ h4_; have n0_ := Aside0.mk (h3_); clear H; have H := n0_; clear n0_; clear h3_ h4_))
    refine bodyPost_ret (results_ct rfl _ _ gr 30 _ (0, 0) _ rfl (H.out.at 0 rfl) Try.underlying30 rfl (msg_info ((M.out w0).size))) rfl (by rw [EX.out]; exact ⟨_, rfl, M.out _, H.out.b⟩)
theorem parse_0_8 {A : Option Addr} {c : Nat} {l : List Int} {w0 : World} (hr : Kd.C (Kd.int .u8) w0 A l.length l) (hc : l.length ≤ c) (hs : l.length ≤ 1000000) (hb : isBytes l) :
    Calls Try.prog 12 #[.int .i64 0, .int .u8 8, .slice A l.length c] w0 fun en w' => ∃ cx, en = .returned (.tuple #[.agg cx, .int .i64 (parse 0 8 l).2]) ∧ IsMsg w' cx (parse 0 8 l).1 ∧ Below w0.heap.size w0 w' := by
  have HR := Aside0.mk hr
  have HC := Aside0.mk hc
  have HS := Aside0.mk hs
  have HBB := Aside0.mk hb
  clear hr hc hs hb
  go_enter Try.func12, Try.ntmps12
  go_upto_region 3 with (first | ((with_reducible refine gate_dst (N := 6) rfl ?_); refine ev_alloc rfl rfl ?_; intro gr w1 hg_ h1_ h2_; have HG := Aside0.mk hg_; have H1 := Aside0.mk h1_; have H2 := Aside0.mk h2_; clear hg_ h1_ h2_))
  go_upto_region 4 with (first | ((with_reducible refine gate_dst (N := 19) rfl ?_); refine ev_build ((zeroC.setIfInBounds 0 (.int .u8 (8)))) rfl (by go_simp; first | rfl | done) ?_; intro cx hcx_; have M := Aside0.mk (show ∀ W, IsMsg W cx _ from fun W => by rw [hcx_]; exact (fun W => set_code (zero_is W) (v := 8) (by decide)) W); have NL := Aside0.mk (show NilL cx by rw [hcx_]; exact PS.zero_nil.set (by decide)); clear hcx_) | ((with_reducible refine gate_dst (N := 8) rfl ?_); refine ev_var (y := .tmp 19) rfl rfl rfl rfl rfl (M.out w0) rfl rfl ?_; intro gm w2 hg_ h1_ hb_; have HM1 := Aside0.mk hg_; have HM2 := Aside0.mk h1_; have HM3 := Aside0.mk hb_; clear h1_ hb_ hg_))
  go_upto_region 5 with (first | (go_at_call 20; (with_reducible refine (p_new A c l _ (Kd.C_below HR.out (H2.out.trans (HM3.out.mono H2.out.size))) HC.out HS.out HBB.out).mono ?_); rintro en w3 ⟨g, rfl, q1_, q2_, q3_, q4_⟩; have HP := Aside0.mk (St_first HG.out H1.out H2.out HM1.out HM2.out HM3.out M.out NL.out q1_ q2_ q3_); clear q1_ q2_ q3_ q4_ H1 H2 HG HM1 HM2 HM3))
  obtain ⟨m0, hm0⟩ : ∃ z, z = ({ zeroM with code := 8 } : Msg) := ⟨_, rfl⟩
  rw [← hm0] at HP
  have HM0 := Aside0.mk hm0
  have HMC := Aside0.mk (show m0.code = 8 by rw [hm0])
  clear hm0 M NL
  go_upto_region 15 with (first | (go_at_call 21; (with_reducible refine (line_0 HP.out).mono ?_); rintro en w6 ⟨rfl, hp_⟩; obtain ⟨cb, e_⟩ : ∃ z, z = lineR 0 m0 ⟨l, false, 0⟩ := ⟨_, rfl⟩; rw [← e_] at hp_; obtain ⟨c9, m9⟩ := cb; have EB := Aside0.mk e_; clear e_; have n0_ := Aside0.mk hp_; clear HP hp_; have HP := n0_; clear n0_))
  replace HP : Aside0 (PS.St w0 gr g gm w6 c9 m9) := HP
  have e2 : bodyR 0 m0 (cu l) = (c9, m9) := by unfold bodyR; rw [if_pos HMC.out, EB.out]; rfl
  have E2 := Aside0.mk e2
  clear e2
  go_upto_region 16 with (first | (go_at_call 23; (with_reducible refine (PS.St.fin HP.out).mono ?_); rintro en x1 ⟨rfl, hp_⟩; obtain ⟨c10, ec_⟩ : ∃ z, z = c9.fin := ⟨_, rfl⟩; rw [← ec_] at hp_; have Ec10 := Aside0.mk ec_; clear ec_; have n0_ := Aside0.mk hp_; clear HP hp_; have HP := n0_; clear n0_))
  go_upto_region 17 with (first | (go_at_call 24; (with_reducible refine (PS.St.err HP.out).mono ?_); rintro en x2 ⟨rfl, hp_⟩; have n0_ := Aside0.mk hp_; clear HP hp_; have HP := n0_; clear n0_))
  have he1 : parse 0 8 l = if c10.e ≠ 0 then (zeroM, c10.e) else (m9, 0) := by
    unfold parse
    rw [if_neg (by decide), if_neg (by decide), ← HM0.out, E2.out, Ec10.out]
  by_cases h9 : c10.e = 0
  · have ex_ : parse 0 8 l = (m9, 0) := by rw [he1, if_neg (fun h => h h9)]
    have EX := Aside0.mk ex_
    have g1 : (c10.e != 0) = false := by rw [h9]; rfl
    have g2 : (c10.e == 0) = true := by rw [h9]; rfl
    clear h9 ex_ he1
    obtain ⟨cx, h_, hz_, hm_⟩ := PS.St.held2 HP.out
    have H := Aside0.mk h_
    have HZ := Aside0.mk hz_
    have HM := Aside0.mk hm_
    have HB := Aside0.mk HP.out.b
    clear h_ hz_ hm_ HP
    go_wp2_with (first | ((with_reducible refine gate_dst (N := 46) rfl ?_); refine ev_load (x := .tmp 8) rfl rfl rfl H.out (i := 1) rfl (HZ.out) ?_) | ((with_reducible refine gate_op (u := .store 30 (.tmp 6) (.tmp 46)) rfl ?_); refine ev_store rfl rfl rfl rfl H.out (i := 0) rfl rfl (HM.out _ ⟨rfl, rfl, rfl, Kept.refl _ _⟩) ?_; intro x91 h3_ h4_; have HE := Aside0.mk (HM.out _ h4_); clear h4_; have n0_ := Aside0.mk (h3_); clear H; have H := n0_; clear n0_; clear h3_))
    refine bodyPost_ret (results_ct rfl _ _ gr 30 _ (0, 0) _ rfl (H.out.at 0 rfl) Try.underlying30 rfl (msg_info (HZ.out))) rfl (by rw [EX.out]; exact ⟨_, rfl, HE.out, H.out.b⟩)
  · have ex_ : parse 0 8 l = (zeroM, c10.e) := by rw [he1, if_pos h9]
    have EX := Aside0.mk ex_
    have g1 : (c10.e != 0) = true := by simpa using h9
    have g2 : (c10.e == 0) = false := by simpa using h9
    clear h9 ex_ he1
    have H := Aside0.mk (PS.St.held HP.out)
    clear HP
    go_wp2_with (first | ((with_reducible refine gate_dst (N := 44) rfl ?_); refine ev_build (zeroC) rfl (by go_simp; first | rfl | done) ?_; intro cx hcx_; have M := Aside0.mk (show ∀ W, IsMsg W cx _ from fun W => by rw [hcx_]; exact zero_is W); clear hcx_) | ((with_reducible refine gate_op (u := .store 30 (.tmp 6) (.tmp 44)) rfl ?_); refine ev_store rfl rfl rfl rfl H.out (i := 0) rfl (rfl) (M.out w0) ?_; intro x90 h3_ h4_; have n0_ := Aside0.mk (h3_); clear H; have H := n0_; clear n0_; clear h3_ h4_))
    refine bodyPost_ret (results_ct rfl _ _ gr 30 _ (0, 0) _ rfl (H.out.at 0 rfl) Try.underlying30 rfl (msg_info ((M.out w0).size))) rfl (by rw [EX.out]; exact ⟨_, rfl, M.out _, H.out.b⟩)
theorem parse_0_11 {A : Option Addr} {c : Nat} {l : List Int} {w0 : World} (hr : Kd.C (Kd.int .u8) w0 A l.length l) (hc : l.length ≤ c) (hs : l.length ≤ 1000000) (hb : isBytes l) :
    Calls Try.prog 12 #[.int .i64 0, .int .u8 11, .slice A l.length c] w0 fun en w' => ∃ cx, en = .returned (.tuple #[.agg cx, .int .i64 (parse 0 11 l).2]) ∧ IsMsg w' cx (parse 0 11 l).1 ∧ Below w0.heap.size w0 w' := by
  have HR := Aside0.mk hr
  have HC := Aside0.mk hc
  have HS := Aside0.mk hs
  have HBB := Aside0.mk hb
  clear hr hc hs hb
  go_enter Try.func12, Try.ntmps12
  go_upto_region 3 with (first | ((with_reducible refine gate_dst (N := 6) rfl ?_); refine ev_alloc rfl rfl ?_; intro gr w1 hg_ h1_ h2_; have HG := Aside0.mk hg_; have H1 := Aside0.mk h1_; have H2 := Aside0.mk h2_; clear hg_ h1_ h2_))
  go_upto_region 4 with (first | ((with_reducible refine gate_dst (N := 19) rfl ?_); refine ev_build ((zeroC.setIfInBounds 0 (.int .u8 (11)))) rfl (by go_simp; first | rfl | done) ?_; intro cx hcx_; have M := Aside0.mk (show ∀ W, IsMsg W cx _ from fun W => by rw [hcx_]; exact (fun W => set_code (zero_is W) (v := 11) (by decide)) W); have NL := Aside0.mk (show NilL cx by rw [hcx_]; exact PS.zero_nil.set (by decide)); clear hcx_) | ((with_reducible refine gate_dst (N := 8) rfl ?_); refine ev_var (y := .tmp 19) rfl rfl rfl rfl rfl (M.out w0) rfl rfl ?_; intro gm w2 hg_ h1_ hb_; have HM1 := Aside0.mk hg_; have HM2 := Aside0.mk h1_; have HM3 := Aside0.mk hb_; clear h1_ hb_ hg_))
  go_upto_region 5 with (first | (go_at_call 20; (with_reducible refine (p_new A c l _ (Kd.C_below HR.out (H2.out.trans (HM3.out.mono H2.out.size))) HC.out HS.out HBB.out).mono ?_); rintro en w3 ⟨g, rfl, q1_, q2_, q3_, q4_⟩; have HP := Aside0.mk (St_first HG.out H1.out H2.out HM1.out HM2.out HM3.out M.out NL.out q1_ q2_ q3_); clear q1_ q2_ q3_ q4_ H1 H2 HG HM1 HM2 HM3))
  obtain ⟨m0, hm0⟩ : ∃ z, z = ({ zeroM with code := 11 } : Msg) := ⟨_, rfl⟩
  rw [← hm0] at HP
  have HM0 := Aside0.mk hm0
  have HMC := Aside0.mk (show m0.code = 11 by rw [hm0])
  clear hm0 M NL
  go_upto_region 15 with (fail)
  obtain ⟨c9, e9_⟩ : ∃ z, z = (⟨l, false, 0⟩ : Cu) := ⟨_, rfl⟩
  rw [← e9_] at HP
  have HP2 : Aside0 (PS.St w0 gr g gm _ c9 m0) := HP
  clear HP
  have HP := HP2
  clear HP2
  have e2 : bodyR 0 m0 (cu l) = (c9, m0) := by unfold bodyR; rw [if_neg (by have := HMC.out; omega), if_neg (by decide), e9_]; rfl
  clear e9_
  have E2 := Aside0.mk e2
  clear e2
  go_upto_region 16 with (first | (go_at_call 23; (with_reducible refine (PS.St.fin HP.out).mono ?_); rintro en x1 ⟨rfl, hp_⟩; obtain ⟨c10, ec_⟩ : ∃ z, z = c9.fin := ⟨_, rfl⟩; rw [← ec_] at hp_; have Ec10 := Aside0.mk ec_; clear ec_; have n0_ := Aside0.mk hp_; clear HP hp_; have HP := n0_; clear n0_))
  go_upto_region 17 with (first | (go_at_call 24; (with_reducible refine (PS.St.err HP.out).mono ?_); rintro en x2 ⟨rfl, hp_⟩; have n0_ := Aside0.mk hp_; clear HP hp_; have HP := n0_; clear n0_))
  have he1 : parse 0 11 l = if c10.e ≠ 0 then (zeroM, c10.e) else (m0, 0) := by
    unfold parse
    rw [if_neg (by decide), if_neg (by decide), ← HM0.out, E2.out, Ec10.out]
  by_cases h9 : c10.e = 0
  · have ex_ : parse 0 11 l = (m0, 0) := by rw [he1, if_neg (fun h => h h9)]
    have EX := Aside0.mk ex_
    have g1 : (c10.e != 0) = false := by rw [h9]; rfl
    have g2 : (c10.e == 0) = true := by rw [h9]; rfl
    clear h9 ex_ he1
    obtain ⟨cx, h_, hz_, hm_⟩ := PS.St.held2 HP.out
    have H := Aside0.mk h_
    have HZ := Aside0.mk hz_
    have HM := Aside0.mk hm_
    have HB := Aside0.mk HP.out.b
    clear h_ hz_ hm_ HP
    go_wp2_with (first | ((with_reducible refine gate_dst (N := 46) rfl ?_); refine ev_load (x := .tmp 8) rfl rfl rfl H.out (i := 1) rfl (HZ.out) ?_) | ((with_reducible refine gate_op (u := .store 30 (.tmp 6) (.tmp 46)) rfl ?_); refine ev_store rfl rfl rfl rfl H.out (i := 0) rfl rfl (HM.out _ ⟨rfl, rfl, rfl, Kept.refl _ _⟩) ?_; intro x91 h3_ h4_; have HE := Aside0.mk (HM.out _ h4_); clear h4_; have n0_ := Aside0.mk (h3_); clear H; have H := n0_; clear n0_; clear h3_))
    refine bodyPost_ret (results_ct rfl _ _ gr 30 _ (0, 0) _ rfl (H.out.at 0 rfl) Try.underlying30 rfl (msg_info (HZ.out))) rfl (by rw [EX.out]; exact ⟨_, rfl, HE.out, H.out.b⟩)
  · have ex_ : parse 0 11 l = (zeroM, c10.e) := by rw [he1, if_pos h9]
    have EX := Aside0.mk ex_
    have g1 : (c10.e != 0) = true := by simpa using h9
    have g2 : (c10.e == 0) = false := by simpa using h9
    clear h9 ex_ he1
    have H := Aside0.mk (PS.St.held HP.out)
    clear HP
    go_wp2_with (first | ((with_reducible refine gate_dst (N := 44) rfl ?_); refine ev_build (zeroC) rfl (by go_simp; first | rfl | done) ?_; intro cx hcx_; have M := Aside0.mk (show ∀ W, IsMsg W cx _ from fun W => by rw [hcx_]; exact zero_is W); clear hcx_) | ((with_reducible refine gate_op (u := .store 30 (.tmp 6) (.tmp 44)) rfl ?_); refine ev_store rfl rfl rfl rfl H.out (i := 0) rfl (rfl) (M.out w0) ?_; intro x90 h3_ h4_; have n0_ := Aside0.mk (h3_); clear H; have H := n0_; clear n0_; clear h3_ h4_))
    refine bodyPost_ret (results_ct rfl _ _ gr 30 _ (0, 0) _ rfl (H.out.at 0 rfl) Try.underlying30 rfl (msg_info ((M.out w0).size))) rfl (by rw [EX.out]; exact ⟨_, rfl, M.out _, H.out.b⟩)
theorem parse_0_12 {A : Option Addr} {c : Nat} {l : List Int} {w0 : World} (hr : Kd.C (Kd.int .u8) w0 A l.length l) (hc : l.length ≤ c) (hs : l.length ≤ 1000000) (hb : isBytes l) :
    Calls Try.prog 12 #[.int .i64 0, .int .u8 12, .slice A l.length c] w0 fun en w' => ∃ cx, en = .returned (.tuple #[.agg cx, .int .i64 (parse 0 12 l).2]) ∧ IsMsg w' cx (parse 0 12 l).1 ∧ Below w0.heap.size w0 w' := by
  have HR := Aside0.mk hr
  have HC := Aside0.mk hc
  have HS := Aside0.mk hs
  have HBB := Aside0.mk hb
  clear hr hc hs hb
  go_enter Try.func12, Try.ntmps12
  go_upto_region 3 with (first | ((with_reducible refine gate_dst (N := 6) rfl ?_); refine ev_alloc rfl rfl ?_; intro gr w1 hg_ h1_ h2_; have HG := Aside0.mk hg_; have H1 := Aside0.mk h1_; have H2 := Aside0.mk h2_; clear hg_ h1_ h2_))
  go_upto_region 4 with (first | ((with_reducible refine gate_dst (N := 19) rfl ?_); refine ev_build ((zeroC.setIfInBounds 0 (.int .u8 (12)))) rfl (by go_simp; first | rfl | done) ?_; intro cx hcx_; have M := Aside0.mk (show ∀ W, IsMsg W cx _ from fun W => by rw [hcx_]; exact (fun W => set_code (zero_is W) (v := 12) (by decide)) W); have NL := Aside0.mk (show NilL cx by rw [hcx_]; exact PS.zero_nil.set (by decide)); clear hcx_) | ((with_reducible refine gate_dst (N := 8) rfl ?_); refine ev_var (y := .tmp 19) rfl rfl rfl rfl rfl (M.out w0) rfl rfl ?_; intro gm w2 hg_ h1_ hb_; have HM1 := Aside0.mk hg_; have HM2 := Aside0.mk h1_; have HM3 := Aside0.mk hb_; clear h1_ hb_ hg_))
  go_upto_region 5 with (first | (go_at_call 20; (with_reducible refine (p_new A c l _ (Kd.C_below HR.out (H2.out.trans (HM3.out.mono H2.out.size))) HC.out HS.out HBB.out).mono ?_); rintro en w3 ⟨g, rfl, q1_, q2_, q3_, q4_⟩; have HP := Aside0.mk (St_first HG.out H1.out H2.out HM1.out HM2.out HM3.out M.out NL.out q1_ q2_ q3_); clear q1_ q2_ q3_ q4_ H1 H2 HG HM1 HM2 HM3))
  obtain ⟨m0, hm0⟩ : ∃ z, z = ({ zeroM with code := 12 } : Msg) := ⟨_, rfl⟩
  rw [← hm0] at HP
  have HM0 := Aside0.mk hm0
  have HMC := Aside0.mk (show m0.code = 12 by rw [hm0])
  clear hm0 M NL
  go_upto_region 15 with (fail)
  obtain ⟨c9, e9_⟩ : ∃ z, z = (⟨l, false, 0⟩ : Cu) := ⟨_, rfl⟩
  rw [← e9_] at HP
  have HP2 : Aside0 (PS.St w0 gr g gm _ c9 m0) := HP
  clear HP
  have HP := HP2
  clear HP2
  have e2 : bodyR 0 m0 (cu l) = (c9, m0) := by unfold bodyR; rw [if_neg (by have := HMC.out; omega), if_neg (by decide), e9_]; rfl
  clear e9_
  have E2 := Aside0.mk e2
  clear e2
  go_upto_region 16 with (first | (go_at_call 23; (with_reducible refine (PS.St.fin HP.out).mono ?_); rintro en x1 ⟨rfl, hp_⟩; obtain ⟨c10, ec_⟩ : ∃ z, z = c9.fin := ⟨_, rfl⟩; rw [← ec_] at hp_; have Ec10 := Aside0.mk ec_; clear ec_; have n0_ := Aside0.mk hp_; clear HP hp_; have HP := n0_; clear n0_))
  go_upto_region 17 with (first | (go_at_call 24; (with_reducible refine (PS.St.err HP.out).mono ?_); rintro en x2 ⟨rfl, hp_⟩; have n0_ := Aside0.mk hp_; clear HP hp_; have HP := n0_; clear n0_))
  have he1 : parse 0 12 l = if c10.e ≠ 0 then (zeroM, c10.e) else (m0, 0) := by
    unfold parse
    rw [if_neg (by decide), if_neg (by decide), ← HM0.out, E2.out, Ec10.out]
  by_cases h9 : c10.e = 0
  · have ex_ : parse 0 12 l = (m0, 0) := by rw [he1, if_neg (fun h => h h9)]
    have EX := Aside0.mk ex_
    have g1 : (c10.e != 0) = false := by rw [h9]; rfl
    have g2 : (c10.e == 0) = true := by rw [h9]; rfl
    clear h9 ex_ he1
    obtain ⟨cx, h_, hz_, hm_⟩ := PS.St.held2 HP.out
    have H := Aside0.mk h_
    have HZ := Aside0.mk hz_
    have HM := Aside0.mk hm_
    have HB := Aside0.mk HP.out.b
    clear h_ hz_ hm_ HP
    go_wp2_with (first | ((with_reducible refine gate_dst (N := 46) rfl ?_); refine ev_load (x := .tmp 8) rfl rfl rfl H.out (i := 1) rfl (HZ.out) ?_) | ((with_reducible refine gate_op (u := .store 30 (.tmp 6) (.tmp 46)) rfl ?_); refine ev_store rfl rfl rfl rfl H.out (i := 0) rfl rfl (HM.out _ ⟨rfl, rfl, rfl, Kept.refl _ _⟩) ?_; intro x91 h3_ h4_; have HE := Aside0.mk (HM.out _ h4_); clear h4_; have n0_ := Aside0.mk (h3_); clear H; have H := n0_; clear n0_; clear h3_))
    refine bodyPost_ret (results_ct rfl _ _ gr 30 _ (0, 0) _ rfl (H.out.at 0 rfl) Try.underlying30 rfl (msg_info (HZ.out))) rfl (by rw [EX.out]; exact ⟨_, rfl, HE.out, H.out.b⟩)
  · have ex_ : parse 0 12 l = (zeroM, c10.e) := by rw [he1, if_pos h9]
    have EX := Aside0.mk ex_
    have g1 : (c10.e != 0) = true := by simpa using h9
    have g2 : (c10.e == 0) = false := by simpa using h9
    clear h9 ex_ he1
    have H := Aside0.mk (PS.St.held HP.out)
    clear HP
    go_wp2_with (first | ((with_reducible refine gate_dst (N := 44) rfl ?_); refine ev_build (zeroC) rfl (by go_simp; first | rfl | done) ?_; intro cx hcx_; have M := Aside0.mk (show ∀ W, IsMsg W cx _ from fun W => by rw [hcx_]; exact zero_is W); clear hcx_) | ((with_reducible refine gate_op (u := .store 30 (.tmp 6) (.tmp 44)) rfl ?_); refine ev_store rfl rfl rfl rfl H.out (i := 0) rfl (rfl) (M.out w0) ?_; intro x90 h3_ h4_; have n0_ := Aside0.mk (h3_); clear H; have H := n0_; clear n0_; clear h3_ h4_))
    refine bodyPost_ret (results_ct rfl _ _ gr 30 _ (0, 0) _ rfl (H.out.at 0 rfl) Try.underlying30 rfl (msg_info ((M.out w0).size))) rfl (by rw [EX.out]; exact ⟨_, rfl, M.out _, H.out.b⟩)
theorem parse_0_17 {A : Option Addr} {c : Nat} {l : List Int} {w0 : World} (hr : Kd.C (Kd.int .u8) w0 A l.length l) (hc : l.length ≤ c) (hs : l.length ≤ 1000000) (hb : isBytes l) :
    Calls Try.prog 12 #[.int .i64 0, .int .u8 17, .slice A l.length c] w0 fun en w' => ∃ cx, en = .returned (.tuple #[.agg cx, .int .i64 (parse 0 17 l).2]) ∧ IsMsg w' cx (parse 0 17 l).1 ∧ Below w0.heap.size w0 w' := by
  have HR := Aside0.mk hr
  have HC := Aside0.mk hc
  have HS := Aside0.mk hs
  have HBB := Aside0.mk hb
  clear hr hc hs hb
  go_enter Try.func12, Try.ntmps12
  go_upto_region 3 with (first | ((with_reducible refine gate_dst (N := 6) rfl ?_); refine ev_alloc rfl rfl ?_; intro gr w1 hg_ h1_ h2_; have HG := Aside0.mk hg_; have H1 := Aside0.mk h1_; have H2 := Aside0.mk h2_; clear hg_ h1_ h2_))
  go_upto_region 4 with (first | ((with_reducible refine gate_dst (N := 19) rfl ?_); refine ev_build ((zeroC.setIfInBounds 0 (.int .u8 (17)))) rfl (by go_simp; first | rfl | done) ?_; intro cx hcx_; have M := Aside0.mk (show ∀ W, IsMsg W cx _ from fun W => by rw [hcx_]; exact (fun W => set_code (zero_is W) (v := 17) (by decide)) W); have NL := Aside0.mk (show NilL cx by rw [hcx_]; exact PS.zero_nil.set (by decide)); clear hcx_) | ((with_reducible refine gate_dst (N := 8) rfl ?_); refine ev_var (y := .tmp 19) rfl rfl rfl rfl rfl (M.out w0) rfl rfl ?_; intro gm w2 hg_ h1_ hb_; have HM1 := Aside0.mk hg_; have HM2 := Aside0.mk h1_; have HM3 := Aside0.mk hb_; clear h1_ hb_ hg_))
  go_upto_region 5 with (first | (go_at_call 20; (with_reducible refine (p_new A c l _ (Kd.C_below HR.out (H2.out.trans (HM3.out.mono H2.out.size))) HC.out HS.out HBB.out).mono ?_); rintro en w3 ⟨g, rfl, q1_, q2_, q3_, q4_⟩; have HP := Aside0.mk (St_first HG.out H1.out H2.out HM1.out HM2.out HM3.out M.out NL.out q1_ q2_ q3_); clear q1_ q2_ q3_ q4_ H1 H2 HG HM1 HM2 HM3))
  obtain ⟨m0, hm0⟩ : ∃ z, z = ({ zeroM with code := 17 } : Msg) := ⟨_, rfl⟩
  rw [← hm0] at HP
  have HM0 := Aside0.mk hm0
  have HMC := Aside0.mk (show m0.code = 17 by rw [hm0])
  clear hm0 M NL
  go_upto_region 15 with (fail)
  obtain ⟨c9, e9_⟩ : ∃ z, z = (⟨l, false, 0⟩ : Cu) := ⟨_, rfl⟩
  rw [← e9_] at HP
  have HP2 : Aside0 (PS.St w0 gr g gm _ c9 m0) := HP
  clear HP
  have HP := HP2
  clear HP2
  have e2 : bodyR 0 m0 (cu l) = (c9, m0) := by unfold bodyR; rw [if_neg (by have := HMC.out; omega), if_neg (by decide), e9_]; rfl
  clear e9_
  have E2 := Aside0.mk e2
  clear e2
  go_upto_region 16 with (first | (go_at_call 23; (with_reducible refine (PS.St.fin HP.out).mono ?_); rintro en x1 ⟨rfl, hp_⟩; obtain ⟨c10, ec_⟩ : ∃ z, z = c9.fin := ⟨_, rfl⟩; rw [← ec_] at hp_; have Ec10 := Aside0.mk ec_; clear ec_; have n0_ := Aside0.mk hp_; clear HP hp_; have HP := n0_; clear n0_))
  go_upto_region 17 with (first | (go_at_call 24; (with_reducible refine (PS.St.err HP.out).mono ?_); rintro en x2 ⟨rfl, hp_⟩; have n0_ := Aside0.mk hp_; clear HP hp_; have HP := n0_; clear n0_))
  have he1 : parse 0 17 l = if c10.e ≠ 0 then (zeroM, c10.e) else (m0, 0) := by
    unfold parse
    rw [if_neg (by decide), if_neg (by decide), ← HM0.out, E2.out, Ec10.out]
  by_cases h9 : c10.e = 0
  · have ex_ : parse 0 17 l = (m0, 0) := by rw [he1, if_neg (fun h => h h9)]
    have EX := Aside0.mk ex_
    have g1 : (c10.e != 0) = false := by rw [h9]; rfl
    have g2 : (c10.e == 0) = true := by rw [h9]; rfl
    clear h9 ex_ he1
    obtain ⟨cx, h_, hz_, hm_⟩ := PS.St.held2 HP.out
    have H := Aside0.mk h_
    have HZ := Aside0.mk hz_
    have HM := Aside0.mk hm_
    have HB := Aside0.mk HP.out.b
    clear h_ hz_ hm_ HP
    go_wp2_with (first | ((with_reducible refine gate_dst (N := 46) rfl ?_); refine ev_load (x := .tmp 8) rfl rfl rfl H.out (i := 1) rfl (HZ.out) ?_) | ((with_reducible refine gate_op (u := .store 30 (.tmp 6) (.tmp 46)) rfl ?_); refine ev_store rfl rfl rfl rfl H.out (i := 0) rfl rfl (HM.out _ ⟨rfl, rfl, rfl, Kept.refl _ _⟩) ?_; intro x91 h3_ h4_; have HE := Aside0.mk (HM.out _ h4_); clear h4_; have n0_ := Aside0.mk (h3_); clear H; have H := n0_; clear n0_; clear h3_))
    refine bodyPost_ret (results_ct rfl _ _ gr 30 _ (0, 0) _ rfl (H.out.at 0 rfl) Try.underlying30 rfl (msg_info (HZ.out))) rfl (by rw [EX.out]; exact ⟨_, rfl, HE.out, H.out.b⟩)
  · have ex_ : parse 0 17 l = (zeroM, c10.e) := by rw [he1, if_pos h9]
    have EX := Aside0.mk ex_
    have g1 : (c10.e != 0) = true := by simpa using h9
    have g2 : (c10.e == 0) = false := by simpa using h9
    clear h9 ex_ he1
    have H := Aside0.mk (PS.St.held HP.out)
    clear HP
    go_wp2_with (first | ((with_reducible refine gate_dst (N := 44) rfl ?_); refine ev_build (zeroC) rfl (by go_simp; first | rfl | done) ?_; intro cx hcx_; have M := Aside0.mk (show ∀ W, IsMsg W cx _ from fun W => by rw [hcx_]; exact zero_is W); clear hcx_) | ((with_reducible refine gate_op (u := .store 30 (.tmp 6) (.tmp 44)) rfl ?_); refine ev_store rfl rfl rfl rfl H.out (i := 0) rfl (rfl) (M.out w0) ?_; intro x90 h3_ h4_; have n0_ := Aside0.mk (h3_); clear H; have H := n0_; clear n0_; clear h3_ h4_))
    refine bodyPost_ret (results_ct rfl _ _ gr 30 _ (0, 0) _ rfl (H.out.at 0 rfl) Try.underlying30 rfl (msg_info ((M.out w0).size))) rfl (by rw [EX.out]; exact ⟨_, rfl, M.out _, H.out.b⟩)
theorem parse_no1 {A : Option Addr} {c : Nat} {l : List Int} {w0 : World} (hr : Kd.C (Kd.int .u8) w0 A l.length l) (hc : l.length ≤ c) (hs : l.length ≤ 1000000) (hb : isBytes l) {code : Int} (hcd : 0 ≤ code ∧ code < 256) (hk : ¬ isCode code) :
    Calls Try.prog 12 #[.int .i64 1, .int .u8 code, .slice A l.length c] w0 fun en w' => ∃ cx, en = .returned (.tuple #[.agg cx, .int .i64 4]) ∧ IsMsg w' cx zeroM ∧ Below w0.heap.size w0 w' := by
  have HR := Aside0.mk hr
  have HC := Aside0.mk hc
  have HS := Aside0.mk hs
  have HBB := Aside0.mk hb
  clear hr hc hs hb
  have HKB := Aside0.mk hcd
  clear hcd
  have b7 : (code == 7) = false := beq_eq_false_iff_ne.2 (fun e => hk (by unfold isCode; omega))
  have c7 : (code != 7) = true := by rw [bne, b7]; rfl
  have b8 : (code == 8) = false := beq_eq_false_iff_ne.2 (fun e => hk (by unfold isCode; omega))
  have c8 : (code != 8) = true := by rw [bne, b8]; rfl
  have b11 : (code == 11) = false := beq_eq_false_iff_ne.2 (fun e => hk (by unfold isCode; omega))
  have c11 : (code != 11) = true := by rw [bne, b11]; rfl
  have b12 : (code == 12) = false := beq_eq_false_iff_ne.2 (fun e => hk (by unfold isCode; omega))
  have c12 : (code != 12) = true := by rw [bne, b12]; rfl
  have b17 : (code == 17) = false := beq_eq_false_iff_ne.2 (fun e => hk (by unfold isCode; omega))
  have c17 : (code != 17) = true := by rw [bne, b17]; rfl
  clear hk
  go_enter Try.func12, Try.ntmps12
  go_upto_region 3 with (first | ((with_reducible refine gate_dst (N := 6) rfl ?_); refine ev_alloc rfl rfl ?_; intro gr w1 hg_ h1_ h2_; have HG := Aside0.mk hg_; have H1 := Aside0.mk h1_; have H2 := Aside0.mk h2_; clear hg_ h1_ h2_))
  go_upto_region 4 with (first | ((with_reducible refine gate_dst (N := 19) rfl ?_); refine ev_build ((zeroC.setIfInBounds 0 (.int .u8 (code)))) rfl (by go_simp; first | rfl | done) ?_; intro cx hcx_; have M := Aside0.mk (show ∀ W, IsMsg W cx _ from fun W => by rw [hcx_]; exact (fun W => set_code (zero_is W) (v := code) ⟨by have := HKB.out; omega, by have := HKB.out; omega⟩) W); have NL := Aside0.mk (show NilL cx by rw [hcx_]; exact PS.zero_nil.set (by decide)); clear hcx_) | ((with_reducible refine gate_dst (N := 8) rfl ?_); refine ev_var (y := .tmp 19) rfl rfl rfl rfl rfl (M.out w0) rfl rfl ?_; intro gm w2 hg_ h1_ hb_; have HM1 := Aside0.mk hg_; have HM2 := Aside0.mk h1_; have HM3 := Aside0.mk hb_; clear h1_ hb_ hg_))
  go_upto_region 5 with (first | (go_at_call 20; (with_reducible refine (p_new A c l _ (Kd.C_below HR.out (H2.out.trans (HM3.out.mono H2.out.size))) HC.out HS.out HBB.out).mono ?_); rintro en w3 ⟨g, rfl, q1_, q2_, q3_, q4_⟩; have HP := Aside0.mk (St_first HG.out H1.out H2.out HM1.out HM2.out HM3.out M.out NL.out q1_ q2_ q3_); clear q1_ q2_ q3_ q4_ H1 H2 HG HM1 HM2 HM3))
  have H := Aside0.mk (PS.St.held HP.out)
  clear HP M NL
  go_wp2_with (first | ((with_reducible refine gate_dst (N := 23) rfl ?_); refine ev_build (zeroC) rfl (by go_simp; first | rfl | done) ?_; intro cx hcx_; have M := Aside0.mk (show ∀ W, IsMsg W cx _ from fun W => by rw [hcx_]; exact zero_is W); clear hcx_) | ((with_reducible refine gate_op (u := .store 30 (.tmp 6) (.tmp 23)) rfl ?_); refine ev_store rfl rfl rfl rfl H.out (i := 0) rfl (rfl) (M.out w0) ?_; intro w99 h3_ h4_; have n0_ := Aside0.mk (h3_); clear H; have H := n0_; clear n0_; clear h3_ h4_))
  refine bodyPost_ret (results_ct rfl _ _ gr 30 _ (0, 0) _ rfl (H.out.at 0 rfl) Try.underlying30 rfl (msg_info ((M.out w0).size))) rfl (⟨_, rfl, M.out _, H.out.b⟩)
theorem parse_1_7 {A : Option Addr} {c : Nat} {l : List Int} {w0 : World} (hr : Kd.C (Kd.int .u8) w0 A l.length l) (hc : l.length ≤ c) (hs : l.length ≤ 1000000) (hb : isBytes l) :
    Calls Try.prog 12 #[.int .i64 1, .int .u8 7, .slice A l.length c] w0 fun en w' => ∃ cx, en = .returned (.tuple #[.agg cx, .int .i64 (parse 1 7 l).2]) ∧ IsMsg w' cx (parse 1 7 l).1 ∧ Below w0.heap.size w0 w' := by
  have HR := Aside0.mk hr
  have HC := Aside0.mk hc
  have HS := Aside0.mk hs
  have HBB := Aside0.mk hb
  clear hr hc hs hb
  go_enter Try.func12, Try.ntmps12
  go_upto_region 3 with (first | ((with_reducible refine gate_dst (N := 6) rfl ?_); refine ev_alloc rfl rfl ?_; intro gr w1 hg_ h1_ h2_; have HG := Aside0.mk hg_; have H1 := Aside0.mk h1_; have H2 := Aside0.mk h2_; clear hg_ h1_ h2_))
  go_upto_region 4 with (first | ((with_reducible refine gate_dst (N := 19) rfl ?_); refine ev_build ((zeroC.setIfInBounds 0 (.int .u8 (7)))) rfl (by go_simp; first | rfl | done) ?_; intro cx hcx_; have M := Aside0.mk (show ∀ W, IsMsg W cx _ from fun W => by rw [hcx_]; exact (fun W => set_code (zero_is W) (v := 7) (by decide)) W); have NL := Aside0.mk (show NilL cx by rw [hcx_]; exact PS.zero_nil.set (by decide)); clear hcx_) | ((with_reducible refine gate_dst (N := 8) rfl ?_); refine ev_var (y := .tmp 19) rfl rfl rfl rfl rfl (M.out w0) rfl rfl ?_; intro gm w2 hg_ h1_ hb_; have HM1 := Aside0.mk hg_; have HM2 := Aside0.mk h1_; have HM3 := Aside0.mk hb_; clear h1_ hb_ hg_))
  go_upto_region 5 with (first | (go_at_call 20; (with_reducible refine (p_new A c l _ (Kd.C_below HR.out (H2.out.trans (HM3.out.mono H2.out.size))) HC.out HS.out HBB.out).mono ?_); rintro en w3 ⟨g, rfl, q1_, q2_, q3_, q4_⟩; have HP := Aside0.mk (St_first HG.out H1.out H2.out HM1.out HM2.out HM3.out M.out NL.out q1_ q2_ q3_); clear q1_ q2_ q3_ q4_ H1 H2 HG HM1 HM2 HM3))
  obtain ⟨m0, hm0⟩ : ∃ z, z = ({ zeroM with code := 7 } : Msg) := ⟨_, rfl⟩
  rw [← hm0] at HP
  have HM0 := Aside0.mk hm0
  have HMC := Aside0.mk (show m0.code = 7 by rw [hm0])
  clear hm0 M NL
  go_upto_region 15 with (first | (go_at_call 22; (with_reducible refine (answer_7 HP.out HMC.out).mono ?_); rintro en w6 ⟨rfl, hp_⟩; obtain ⟨cb, e_⟩ : ∃ z, z = ansR m0 ⟨l, false, 0⟩ := ⟨_, rfl⟩; rw [← e_] at hp_; obtain ⟨c9, m9⟩ := cb; have EB := Aside0.mk e_; clear e_; have n0_ := Aside0.mk hp_; clear HP hp_; have HP := n0_; clear n0_))
  replace HP : Aside0 (PS.St w0 gr g gm w6 c9 m9) := HP
  have e2 : bodyR 1 m0 (cu l) = (c9, m9) := by unfold bodyR; rw [if_neg (by have := HMC.out; omega), if_pos rfl, EB.out]; rfl
  have E2 := Aside0.mk e2
  clear e2
  go_upto_region 16 with (first | (go_at_call 23; (with_reducible refine (PS.St.fin HP.out).mono ?_); rintro en x1 ⟨rfl, hp_⟩; obtain ⟨c10, ec_⟩ : ∃ z, z = c9.fin := ⟨_, rfl⟩; rw [← ec_] at hp_; have Ec10 := Aside0.mk ec_; clear ec_; have n0_ := Aside0.mk hp_; clear HP hp_; have HP := n0_; clear n0_))
  go_upto_region 17 with (first | (go_at_call 24; (with_reducible refine (PS.St.err HP.out).mono ?_); rintro en x2 ⟨rfl, hp_⟩; have n0_ := Aside0.mk hp_; clear HP hp_; have HP := n0_; clear n0_))
  have he1 : parse 1 7 l = if c10.e ≠ 0 then (zeroM, c10.e) else (m9, 0) := by
    unfold parse
    rw [if_neg (by decide), if_neg (by decide), ← HM0.out, E2.out, Ec10.out]
  by_cases h9 : c10.e = 0
  · have ex_ : parse 1 7 l = (m9, 0) := by rw [he1, if_neg (fun h => h h9)]
    have EX := Aside0.mk ex_
    have g1 : (c10.e != 0) = false := by rw [h9]; rfl
    have g2 : (c10.e == 0) = true := by rw [h9]; rfl
    clear h9 ex_ he1
    obtain ⟨cx, h_, hz_, hm_⟩ := PS.St.held2 HP.out
    have H := Aside0.mk h_
    have HZ := Aside0.mk hz_
    have HM := Aside0.mk hm_
    have HB := Aside0.mk HP.out.b
    clear h_ hz_ hm_ HP
    go_wp2_with (first | ((with_reducible refine gate_dst (N := 46) rfl ?_); refine ev_load (x := .tmp 8) rfl rfl rfl H.out (i := 1) rfl (HZ.out) ?_) | ((with_reducible refine gate_op (u := .store 30 (.tmp 6) (.tmp 46)) rfl ?_); refine ev_store rfl rfl rfl rfl H.out (i := 0) rfl rfl (HM.out _ ⟨rfl, rfl, rfl, Kept.refl _ _⟩) ?_; intro x91 h3_ h4_; have HE := Aside0.mk (HM.out _ h4_); clear h4_; have n0_ := Aside0.mk (h3_); clear H; have H := n0_; clear n0_; clear h3_))
    refine bodyPost_ret (results_ct rfl _ _ gr 30 _ (0, 0) _ rfl (H.out.at 0 rfl) Try.underlying30 rfl (msg_info (HZ.out))) rfl (by rw [EX.out]; exact ⟨_, rfl, HE.out, H.out.b⟩)
  · have ex_ : parse 1 7 l = (zeroM, c10.e) := by rw [he1, if_pos h9]
    have EX := Aside0.mk ex_
    have g1 : (c10.e != 0) = true := by simpa using h9
    have g2 : (c10.e == 0) = false := by simpa using h9
    clear h9 ex_ he1
    have H := Aside0.mk (PS.St.held HP.out)
    clear HP
    go_wp2_with (first | ((with_reducible refine gate_dst (N := 44) rfl ?_); refine ev_build (zeroC) rfl (by go_simp; first | rfl | done) ?_; intro cx hcx_; have M := Aside0.mk (show ∀ W, IsMsg W cx _ from fun W => by rw [hcx_]; exact zero_is W); clear hcx_) | ((with_reducible refine gate_op (u := .store 30 (.tmp 6) (.tmp 44)) rfl ?_); refine ev_store rfl rfl rfl rfl H.out (i := 0) rfl (rfl) (M.out w0) ?_; intro x90 h3_ h4_; have n0_ := Aside0.mk (h3_); clear H; have H := n0_; clear n0_; clear h3_ h4_))
    refine bodyPost_ret (results_ct rfl _ _ gr 30 _ (0, 0) _ rfl (H.out.at 0 rfl) Try.underlying30 rfl (msg_info ((M.out w0).size))) rfl (by rw [EX.out]; exact ⟨_, rfl, M.out _, H.out.b⟩)
theorem parse_1_8 {A : Option Addr} {c : Nat} {l : List Int} {w0 : World} (hr : Kd.C (Kd.int .u8) w0 A l.length l) (hc : l.length ≤ c) (hs : l.length ≤ 1000000) (hb : isBytes l) :
    Calls Try.prog 12 #[.int .i64 1, .int .u8 8, .slice A l.length c] w0 fun en w' => ∃ cx, en = .returned (.tuple #[.agg cx, .int .i64 (parse 1 8 l).2]) ∧ IsMsg w' cx (parse 1 8 l).1 ∧ Below w0.heap.size w0 w' := by
  have HR := Aside0.mk hr
  have HC := Aside0.mk hc
  have HS := Aside0.mk hs
  have HBB := Aside0.mk hb
  clear hr hc hs hb
  go_enter Try.func12, Try.ntmps12
  go_upto_region 3 with (first | ((with_reducible refine gate_dst (N := 6) rfl ?_); refine ev_alloc rfl rfl ?_; intro gr w1 hg_ h1_ h2_; have HG := Aside0.mk hg_; have H1 := Aside0.mk h1_; have H2 := Aside0.mk h2_; clear hg_ h1_ h2_))
  go_upto_region 4 with (first | ((with_reducible refine gate_dst (N := 19) rfl ?_); refine ev_build ((zeroC.setIfInBounds 0 (.int .u8 (8)))) rfl (by go_simp; first | rfl | done) ?_; intro cx hcx_; have M := Aside0.mk (show ∀ W, IsMsg W cx _ from fun W => by rw [hcx_]; exact (fun W => set_code (zero_is W) (v := 8) (by decide)) W); have NL := Aside0.mk (show NilL cx by rw [hcx_]; exact PS.zero_nil.set (by decide)); clear hcx_) | ((with_reducible refine gate_dst (N := 8) rfl ?_); refine ev_var (y := .tmp 19) rfl rfl rfl rfl rfl (M.out w0) rfl rfl ?_; intro gm w2 hg_ h1_ hb_; have HM1 := Aside0.mk hg_; have HM2 := Aside0.mk h1_; have HM3 := Aside0.mk hb_; clear h1_ hb_ hg_))
  go_upto_region 5 with (first | (go_at_call 20; (with_reducible refine (p_new A c l _ (Kd.C_below HR.out (H2.out.trans (HM3.out.mono H2.out.size))) HC.out HS.out HBB.out).mono ?_); rintro en w3 ⟨g, rfl, q1_, q2_, q3_, q4_⟩; have HP := Aside0.mk (St_first HG.out H1.out H2.out HM1.out HM2.out HM3.out M.out NL.out q1_ q2_ q3_); clear q1_ q2_ q3_ q4_ H1 H2 HG HM1 HM2 HM3))
  obtain ⟨m0, hm0⟩ : ∃ z, z = ({ zeroM with code := 8 } : Msg) := ⟨_, rfl⟩
  rw [← hm0] at HP
  have HM0 := Aside0.mk hm0
  have HMC := Aside0.mk (show m0.code = 8 by rw [hm0])
  clear hm0 M NL
  go_upto_region 15 with (first | (go_at_call 21; (with_reducible refine (line_1 HP.out).mono ?_); rintro en w6 ⟨rfl, hp_⟩; obtain ⟨cb, e_⟩ : ∃ z, z = lineR 1 m0 ⟨l, false, 0⟩ := ⟨_, rfl⟩; rw [← e_] at hp_; obtain ⟨c9, m9⟩ := cb; have EB := Aside0.mk e_; clear e_; have n0_ := Aside0.mk hp_; clear HP hp_; have HP := n0_; clear n0_))
  replace HP : Aside0 (PS.St w0 gr g gm w6 c9 m9) := HP
  have e2 : bodyR 1 m0 (cu l) = (c9, m9) := by unfold bodyR; rw [if_pos HMC.out, EB.out]; rfl
  have E2 := Aside0.mk e2
  clear e2
  go_upto_region 16 with (first | (go_at_call 23; (with_reducible refine (PS.St.fin HP.out).mono ?_); rintro en x1 ⟨rfl, hp_⟩; obtain ⟨c10, ec_⟩ : ∃ z, z = c9.fin := ⟨_, rfl⟩; rw [← ec_] at hp_; have Ec10 := Aside0.mk ec_; clear ec_; have n0_ := Aside0.mk hp_; clear HP hp_; have HP := n0_; clear n0_))
  go_upto_region 17 with (first | (go_at_call 24; (with_reducible refine (PS.St.err HP.out).mono ?_); rintro en x2 ⟨rfl, hp_⟩; have n0_ := Aside0.mk hp_; clear HP hp_; have HP := n0_; clear n0_))
  have he1 : parse 1 8 l = if c10.e ≠ 0 then (zeroM, c10.e) else (m9, 0) := by
    unfold parse
    rw [if_neg (by decide), if_neg (by decide), ← HM0.out, E2.out, Ec10.out]
  by_cases h9 : c10.e = 0
  · have ex_ : parse 1 8 l = (m9, 0) := by rw [he1, if_neg (fun h => h h9)]
    have EX := Aside0.mk ex_
    have g1 : (c10.e != 0) = false := by rw [h9]; rfl
    have g2 : (c10.e == 0) = true := by rw [h9]; rfl
    clear h9 ex_ he1
    obtain ⟨cx, h_, hz_, hm_⟩ := PS.St.held2 HP.out
    have H := Aside0.mk h_
    have HZ := Aside0.mk hz_
    have HM := Aside0.mk hm_
    have HB := Aside0.mk HP.out.b
    clear h_ hz_ hm_ HP
    go_wp2_with (first | ((with_reducible refine gate_dst (N := 46) rfl ?_); refine ev_load (x := .tmp 8) rfl rfl rfl H.out (i := 1) rfl (HZ.out) ?_) | ((with_reducible refine gate_op (u := .store 30 (.tmp 6) (.tmp 46)) rfl ?_); refine ev_store rfl rfl rfl rfl H.out (i := 0) rfl rfl (HM.out _ ⟨rfl, rfl, rfl, Kept.refl _ _⟩) ?_; intro x91 h3_ h4_; have HE := Aside0.mk (HM.out _ h4_); clear h4_; have n0_ := Aside0.mk (h3_); clear H; have H := n0_; clear n0_; clear h3_))
    refine bodyPost_ret (results_ct rfl _ _ gr 30 _ (0, 0) _ rfl (H.out.at 0 rfl) Try.underlying30 rfl (msg_info (HZ.out))) rfl (by rw [EX.out]; exact ⟨_, rfl, HE.out, H.out.b⟩)
  · have ex_ : parse 1 8 l = (zeroM, c10.e) := by rw [he1, if_pos h9]
    have EX := Aside0.mk ex_
    have g1 : (c10.e != 0) = true := by simpa using h9
    have g2 : (c10.e == 0) = false := by simpa using h9
    clear h9 ex_ he1
    have H := Aside0.mk (PS.St.held HP.out)
    clear HP
    go_wp2_with (first | ((with_reducible refine gate_dst (N := 44) rfl ?_); refine ev_build (zeroC) rfl (by go_simp; first | rfl | done) ?_; intro cx hcx_; have M := Aside0.mk (show ∀ W, IsMsg W cx _ from fun W => by rw [hcx_]; exact zero_is W); clear hcx_) | ((with_reducible refine gate_op (u := .store 30 (.tmp 6) (.tmp 44)) rfl ?_); refine ev_store rfl rfl rfl rfl H.out (i := 0) rfl (rfl) (M.out w0) ?_; intro x90 h3_ h4_; have n0_ := Aside0.mk (h3_); clear H; have H := n0_; clear n0_; clear h3_ h4_))
    refine bodyPost_ret (results_ct rfl _ _ gr 30 _ (0, 0) _ rfl (H.out.at 0 rfl) Try.underlying30 rfl (msg_info ((M.out w0).size))) rfl (by rw [EX.out]; exact ⟨_, rfl, M.out _, H.out.b⟩)
theorem parse_1_11 {A : Option Addr} {c : Nat} {l : List Int} {w0 : World} (hr : Kd.C (Kd.int .u8) w0 A l.length l) (hc : l.length ≤ c) (hs : l.length ≤ 1000000) (hb : isBytes l) :
    Calls Try.prog 12 #[.int .i64 1, .int .u8 11, .slice A l.length c] w0 fun en w' => ∃ cx, en = .returned (.tuple #[.agg cx, .int .i64 (parse 1 11 l).2]) ∧ IsMsg w' cx (parse 1 11 l).1 ∧ Below w0.heap.size w0 w' := by
  have HR := Aside0.mk hr
  have HC := Aside0.mk hc
  have HS := Aside0.mk hs
  have HBB := Aside0.mk hb
  clear hr hc hs hb
  go_enter Try.func12, Try.ntmps12
  go_upto_region 3 with (first | ((with_reducible refine gate_dst (N := 6) rfl ?_); refine ev_alloc rfl rfl ?_; intro gr w1 hg_ h1_ h2_; have HG := Aside0.mk hg_; have H1 := Aside0.mk h1_; have H2 := Aside0.mk h2_; clear hg_ h1_ h2_))
  go_upto_region 4 with (first | ((with_reducible refine gate_dst (N := 19) rfl ?_); refine ev_build ((zeroC.setIfInBounds 0 (.int .u8 (11)))) rfl (by go_simp; first | rfl | done) ?_; intro cx hcx_; have M := Aside0.mk (show ∀ W, IsMsg W cx _ from fun W => by rw [hcx_]; exact (fun W => set_code (zero_is W) (v := 11) (by decide)) W); have NL := Aside0.mk (show NilL cx by rw [hcx_]; exact PS.zero_nil.set (by decide)); clear hcx_) | ((with_reducible refine gate_dst (N := 8) rfl ?_); refine ev_var (y := .tmp 19) rfl rfl rfl rfl rfl (M.out w0) rfl rfl ?_; intro gm w2 hg_ h1_ hb_; have HM1 := Aside0.mk hg_; have HM2 := Aside0.mk h1_; have HM3 := Aside0.mk hb_; clear h1_ hb_ hg_))
  go_upto_region 5 with (first | (go_at_call 20; (with_reducible refine (p_new A c l _ (Kd.C_below HR.out (H2.out.trans (HM3.out.mono H2.out.size))) HC.out HS.out HBB.out).mono ?_); rintro en w3 ⟨g, rfl, q1_, q2_, q3_, q4_⟩; have HP := Aside0.mk (St_first HG.out H1.out H2.out HM1.out HM2.out HM3.out M.out NL.out q1_ q2_ q3_); clear q1_ q2_ q3_ q4_ H1 H2 HG HM1 HM2 HM3))
  obtain ⟨m0, hm0⟩ : ∃ z, z = ({ zeroM with code := 11 } : Msg) := ⟨_, rfl⟩
  rw [← hm0] at HP
  have HM0 := Aside0.mk hm0
  have HMC := Aside0.mk (show m0.code = 11 by rw [hm0])
  clear hm0 M NL
  go_upto_region 15 with (first | (go_at_call 22; (with_reducible refine (answer_11 HP.out HMC.out).mono ?_); rintro en w6 ⟨rfl, hp_⟩; obtain ⟨cb, e_⟩ : ∃ z, z = ansR m0 ⟨l, false, 0⟩ := ⟨_, rfl⟩; rw [← e_] at hp_; obtain ⟨c9, m9⟩ := cb; have EB := Aside0.mk e_; clear e_; have n0_ := Aside0.mk hp_; clear HP hp_; have HP := n0_; clear n0_))
  replace HP : Aside0 (PS.St w0 gr g gm w6 c9 m9) := HP
  have e2 : bodyR 1 m0 (cu l) = (c9, m9) := by unfold bodyR; rw [if_neg (by have := HMC.out; omega), if_pos rfl, EB.out]; rfl
  have E2 := Aside0.mk e2
  clear e2
  go_upto_region 16 with (first | (go_at_call 23; (with_reducible refine (PS.St.fin HP.out).mono ?_); rintro en x1 ⟨rfl, hp_⟩; obtain ⟨c10, ec_⟩ : ∃ z, z = c9.fin := ⟨_, rfl⟩; rw [← ec_] at hp_; have Ec10 := Aside0.mk ec_; clear ec_; have n0_ := Aside0.mk hp_; clear HP hp_; have HP := n0_; clear n0_))
  go_upto_region 17 with (first | (go_at_call 24; (with_reducible refine (PS.St.err HP.out).mono ?_); rintro en x2 ⟨rfl, hp_⟩; have n0_ := Aside0.mk hp_; clear HP hp_; have HP := n0_; clear n0_))
  have he1 : parse 1 11 l = if c10.e ≠ 0 then (zeroM, c10.e) else (m9, 0) := by
    unfold parse
    rw [if_neg (by decide), if_neg (by decide), ← HM0.out, E2.out, Ec10.out]
  by_cases h9 : c10.e = 0
  · have ex_ : parse 1 11 l = (m9, 0) := by rw [he1, if_neg (fun h => h h9)]
    have EX := Aside0.mk ex_
    have g1 : (c10.e != 0) = false := by rw [h9]; rfl
    have g2 : (c10.e == 0) = true := by rw [h9]; rfl
    clear h9 ex_ he1
    obtain ⟨cx, h_, hz_, hm_⟩ := PS.St.held2 HP.out
    have H := Aside0.mk h_
    have HZ := Aside0.mk hz_
    have HM := Aside0.mk hm_
    have HB := Aside0.mk HP.out.b
    clear h_ hz_ hm_ HP
    go_wp2_with (first | ((with_reducible refine gate_dst (N := 46) rfl ?_); refine ev_load (x := .tmp 8) rfl rfl rfl H.out (i := 1) rfl (HZ.out) ?_) | ((with_reducible refine gate_op (u := .store 30 (.tmp 6) (.tmp 46)) rfl ?_); refine ev_store rfl rfl rfl rfl H.out (i := 0) rfl rfl (HM.out _ ⟨rfl, rfl, rfl, Kept.refl _ _⟩) ?_; intro x91 h3_ h4_; have HE := Aside0.mk (HM.out _ h4_); clear h4_; have n0_ := Aside0.mk (h3_); clear H; have H := n0_; clear n0_; clear h3_))
    refine bodyPost_ret (results_ct rfl _ _ gr 30 _ (0, 0) _ rfl (H.out.at 0 rfl) Try.underlying30 rfl (msg_info (HZ.out))) rfl (by rw [EX.out]; exact ⟨_, rfl, HE.out, H.out.b⟩)
  · have ex_ : parse 1 11 l = (zeroM, c10.e) := by rw [he1, if_pos h9]
    have EX := Aside0.mk ex_
    have g1 : (c10.e != 0) = true := by simpa using h9
    have g2 : (c10.e == 0) = false := by simpa using h9
    clear h9 ex_ he1
    have H := Aside0.mk (PS.St.held HP.out)
    clear HP
    go_wp2_with (first | ((with_reducible refine gate_dst (N := 44) rfl ?_); refine ev_build (zeroC) rfl (by go_simp; first | rfl | done) ?_; intro cx hcx_; have M := Aside0.mk (show ∀ W, IsMsg W cx _ from fun W => by rw [hcx_]; exact zero_is W); clear hcx_) | ((with_reducible refine gate_op (u := .store 30 (.tmp 6) (.tmp 44)) rfl ?_); refine ev_store rfl rfl rfl rfl H.out (i := 0) rfl (rfl) (M.out w0) ?_; intro x90 h3_ h4_; have n0_ := Aside0.mk (h3_); clear H; have H := n0_; clear n0_; clear h3_ h4_))
    refine bodyPost_ret (results_ct rfl _ _ gr 30 _ (0, 0) _ rfl (H.out.at 0 rfl) Try.underlying30 rfl (msg_info ((M.out w0).size))) rfl (by rw [EX.out]; exact ⟨_, rfl, M.out _, H.out.b⟩)
theorem parse_1_12 {A : Option Addr} {c : Nat} {l : List Int} {w0 : World} (hr : Kd.C (Kd.int .u8) w0 A l.length l) (hc : l.length ≤ c) (hs : l.length ≤ 1000000) (hb : isBytes l) :
    Calls Try.prog 12 #[.int .i64 1, .int .u8 12, .slice A l.length c] w0 fun en w' => ∃ cx, en = .returned (.tuple #[.agg cx, .int .i64 (parse 1 12 l).2]) ∧ IsMsg w' cx (parse 1 12 l).1 ∧ Below w0.heap.size w0 w' := by
  have HR := Aside0.mk hr
  have HC := Aside0.mk hc
  have HS := Aside0.mk hs
  have HBB := Aside0.mk hb
  clear hr hc hs hb
  go_enter Try.func12, Try.ntmps12
  go_upto_region 3 with (first | ((with_reducible refine gate_dst (N := 6) rfl ?_); refine ev_alloc rfl rfl ?_; intro gr w1 hg_ h1_ h2_; have HG := Aside0.mk hg_; have H1 := Aside0.mk h1_; have H2 := Aside0.mk h2_; clear hg_ h1_ h2_))
  go_upto_region 4 with (first | ((with_reducible refine gate_dst (N := 19) rfl ?_); refine ev_build ((zeroC.setIfInBounds 0 (.int .u8 (12)))) rfl (by go_simp; first | rfl | done) ?_; intro cx hcx_; have M := Aside0.mk (show ∀ W, IsMsg W cx _ from fun W => by rw [hcx_]; exact (fun W => set_code (zero_is W) (v := 12) (by decide)) W); have NL := Aside0.mk (show NilL cx by rw [hcx_]; exact PS.zero_nil.set (by decide)); clear hcx_) | ((with_reducible refine gate_dst (N := 8) rfl ?_); refine ev_var (y := .tmp 19) rfl rfl rfl rfl rfl (M.out w0) rfl rfl ?_; intro gm w2 hg_ h1_ hb_; have HM1 := Aside0.mk hg_; have HM2 := Aside0.mk h1_; have HM3 := Aside0.mk hb_; clear h1_ hb_ hg_))
  go_upto_region 5 with (first | (go_at_call 20; (with_reducible refine (p_new A c l _ (Kd.C_below HR.out (H2.out.trans (HM3.out.mono H2.out.size))) HC.out HS.out HBB.out).mono ?_); rintro en w3 ⟨g, rfl, q1_, q2_, q3_, q4_⟩; have HP := Aside0.mk (St_first HG.out H1.out H2.out HM1.out HM2.out HM3.out M.out NL.out q1_ q2_ q3_); clear q1_ q2_ q3_ q4_ H1 H2 HG HM1 HM2 HM3))
  obtain ⟨m0, hm0⟩ : ∃ z, z = ({ zeroM with code := 12 } : Msg) := ⟨_, rfl⟩
  rw [← hm0] at HP
  have HM0 := Aside0.mk hm0
  have HMC := Aside0.mk (show m0.code = 12 by rw [hm0])
  clear hm0 M NL
  go_upto_region 15 with (first | (go_at_call 22; (with_reducible refine (answer_12 HP.out HMC.out).mono ?_); rintro en w6 ⟨rfl, hp_⟩; obtain ⟨cb, e_⟩ : ∃ z, z = ansR m0 ⟨l, false, 0⟩ := ⟨_, rfl⟩; rw [← e_] at hp_; obtain ⟨c9, m9⟩ := cb; have EB := Aside0.mk e_; clear e_; have n0_ := Aside0.mk hp_; clear HP hp_; have HP := n0_; clear n0_))
  replace HP : Aside0 (PS.St w0 gr g gm w6 c9 m9) := HP
  have e2 : bodyR 1 m0 (cu l) = (c9, m9) := by unfold bodyR; rw [if_neg (by have := HMC.out; omega), if_pos rfl, EB.out]; rfl
  have E2 := Aside0.mk e2
  clear e2
  go_upto_region 16 with (first | (go_at_call 23; (with_reducible refine (PS.St.fin HP.out).mono ?_); rintro en x1 ⟨rfl, hp_⟩; obtain ⟨c10, ec_⟩ : ∃ z, z = c9.fin := ⟨_, rfl⟩; rw [← ec_] at hp_; have Ec10 := Aside0.mk ec_; clear ec_; have n0_ := Aside0.mk hp_; clear HP hp_; have HP := n0_; clear n0_))
  go_upto_region 17 with (first | (go_at_call 24; (with_reducible refine (PS.St.err HP.out).mono ?_); rintro en x2 ⟨rfl, hp_⟩; have n0_ := Aside0.mk hp_; clear HP hp_; have HP := n0_; clear n0_))
  have he1 : parse 1 12 l = if c10.e ≠ 0 then (zeroM, c10.e) else (m9, 0) := by
    unfold parse
    rw [if_neg (by decide), if_neg (by decide), ← HM0.out, E2.out, Ec10.out]
  by_cases h9 : c10.e = 0
  · have ex_ : parse 1 12 l = (m9, 0) := by rw [he1, if_neg (fun h => h h9)]
    have EX := Aside0.mk ex_
    have g1 : (c10.e != 0) = false := by rw [h9]; rfl
    have g2 : (c10.e == 0) = true := by rw [h9]; rfl
    clear h9 ex_ he1
    obtain ⟨cx, h_, hz_, hm_⟩ := PS.St.held2 HP.out
    have H := Aside0.mk h_
    have HZ := Aside0.mk hz_
    have HM := Aside0.mk hm_
    have HB := Aside0.mk HP.out.b
    clear h_ hz_ hm_ HP
    go_wp2_with (first | ((with_reducible refine gate_dst (N := 46) rfl ?_); refine ev_load (x := .tmp 8) rfl rfl rfl H.out (i := 1) rfl (HZ.out) ?_) | ((with_reducible refine gate_op (u := .store 30 (.tmp 6) (.tmp 46)) rfl ?_); refine ev_store rfl rfl rfl rfl H.out (i := 0) rfl rfl (HM.out _ ⟨rfl, rfl, rfl, Kept.refl _ _⟩) ?_; intro x91 h3_ h4_; have HE := Aside0.mk (HM.out _ h4_); clear h4_; have n0_ := Aside0.mk (h3_); clear H; have H := n0_; clear n0_; clear h3_))
    refine bodyPost_ret (results_ct rfl _ _ gr 30 _ (0, 0) _ rfl (H.out.at 0 rfl) Try.underlying30 rfl (msg_info (HZ.out))) rfl (by rw [EX.out]; exact ⟨_, rfl, HE.out, H.out.b⟩)
  · have ex_ : parse 1 12 l = (zeroM, c10.e) := by rw [he1, if_pos h9]
    have EX := Aside0.mk ex_
    have g1 : (c10.e != 0) = true := by simpa using h9
    have g2 : (c10.e == 0) = false := by simpa using h9
    clear h9 ex_ he1
    have H := Aside0.mk (PS.St.held HP.out)
    clear HP
    go_wp2_with (first | ((with_reducible refine gate_dst (N := 44) rfl ?_); refine ev_build (zeroC) rfl (by go_simp; first | rfl | done) ?_; intro cx hcx_; have M := Aside0.mk (show ∀ W, IsMsg W cx _ from fun W => by rw [hcx_]; exact zero_is W); clear hcx_) | ((with_reducible refine gate_op (u := .store 30 (.tmp 6) (.tmp 44)) rfl ?_); refine ev_store rfl rfl rfl rfl H.out (i := 0) rfl (rfl) (M.out w0) ?_; intro x90 h3_ h4_; have n0_ := Aside0.mk (h3_); clear H; have H := n0_; clear n0_; clear h3_ h4_))
    refine bodyPost_ret (results_ct rfl _ _ gr 30 _ (0, 0) _ rfl (H.out.at 0 rfl) Try.underlying30 rfl (msg_info ((M.out w0).size))) rfl (by rw [EX.out]; exact ⟨_, rfl, M.out _, H.out.b⟩)
theorem parse_1_17 {A : Option Addr} {c : Nat} {l : List Int} {w0 : World} (hr : Kd.C (Kd.int .u8) w0 A l.length l) (hc : l.length ≤ c) (hs : l.length ≤ 1000000) (hb : isBytes l) :
    Calls Try.prog 12 #[.int .i64 1, .int .u8 17, .slice A l.length c] w0 fun en w' => ∃ cx, en = .returned (.tuple #[.agg cx, .int .i64 (parse 1 17 l).2]) ∧ IsMsg w' cx (parse 1 17 l).1 ∧ Below w0.heap.size w0 w' := by
  have HR := Aside0.mk hr
  have HC := Aside0.mk hc
  have HS := Aside0.mk hs
  have HBB := Aside0.mk hb
  clear hr hc hs hb
  go_enter Try.func12, Try.ntmps12
  go_upto_region 3 with (first | ((with_reducible refine gate_dst (N := 6) rfl ?_); refine ev_alloc rfl rfl ?_; intro gr w1 hg_ h1_ h2_; have HG := Aside0.mk hg_; have H1 := Aside0.mk h1_; have H2 := Aside0.mk h2_; clear hg_ h1_ h2_))
  go_upto_region 4 with (first | ((with_reducible refine gate_dst (N := 19) rfl ?_); refine ev_build ((zeroC.setIfInBounds 0 (.int .u8 (17)))) rfl (by go_simp; first | rfl | done) ?_; intro cx hcx_; have M := Aside0.mk (show ∀ W, IsMsg W cx _ from fun W => by rw [hcx_]; exact (fun W => set_code (zero_is W) (v := 17) (by decide)) W); have NL := Aside0.mk (show NilL cx by rw [hcx_]; exact PS.zero_nil.set (by decide)); clear hcx_) | ((with_reducible refine gate_dst (N := 8) rfl ?_); refine ev_var (y := .tmp 19) rfl rfl rfl rfl rfl (M.out w0) rfl rfl ?_; intro gm w2 hg_ h1_ hb_; have HM1 := Aside0.mk hg_; have HM2 := Aside0.mk h1_; have HM3 := Aside0.mk hb_; clear h1_ hb_ hg_))
  go_upto_region 5 with (first | (go_at_call 20; (with_reducible refine (p_new A c l _ (Kd.C_below HR.out (H2.out.trans (HM3.out.mono H2.out.size))) HC.out HS.out HBB.out).mono ?_); rintro en w3 ⟨g, rfl, q1_, q2_, q3_, q4_⟩; have HP := Aside0.mk (St_first HG.out H1.out H2.out HM1.out HM2.out HM3.out M.out NL.out q1_ q2_ q3_); clear q1_ q2_ q3_ q4_ H1 H2 HG HM1 HM2 HM3))
  obtain ⟨m0, hm0⟩ : ∃ z, z = ({ zeroM with code := 17 } : Msg) := ⟨_, rfl⟩
  rw [← hm0] at HP
  have HM0 := Aside0.mk hm0
  have HMC := Aside0.mk (show m0.code = 17 by rw [hm0])
  clear hm0 M NL
  go_upto_region 15 with (first | (go_at_call 22; (with_reducible refine (answer_17 HP.out HMC.out).mono ?_); rintro en w6 ⟨rfl, hp_⟩; obtain ⟨cb, e_⟩ : ∃ z, z = ansR m0 ⟨l, false, 0⟩ := ⟨_, rfl⟩; rw [← e_] at hp_; obtain ⟨c9, m9⟩ := cb; have EB := Aside0.mk e_; clear e_; have n0_ := Aside0.mk hp_; clear HP hp_; have HP := n0_; clear n0_))
  replace HP : Aside0 (PS.St w0 gr g gm w6 c9 m9) := HP
  have e2 : bodyR 1 m0 (cu l) = (c9, m9) := by unfold bodyR; rw [if_neg (by have := HMC.out; omega), if_pos rfl, EB.out]; rfl
  have E2 := Aside0.mk e2
  clear e2
  go_upto_region 16 with (first | (go_at_call 23; (with_reducible refine (PS.St.fin HP.out).mono ?_); rintro en x1 ⟨rfl, hp_⟩; obtain ⟨c10, ec_⟩ : ∃ z, z = c9.fin := ⟨_, rfl⟩; rw [← ec_] at hp_; have Ec10 := Aside0.mk ec_; clear ec_; have n0_ := Aside0.mk hp_; clear HP hp_; have HP := n0_; clear n0_))
  go_upto_region 17 with (first | (go_at_call 24; (with_reducible refine (PS.St.err HP.out).mono ?_); rintro en x2 ⟨rfl, hp_⟩; have n0_ := Aside0.mk hp_; clear HP hp_; have HP := n0_; clear n0_))
  have he1 : parse 1 17 l = if c10.e ≠ 0 then (zeroM, c10.e) else (m9, 0) := by
    unfold parse
    rw [if_neg (by decide), if_neg (by decide), ← HM0.out, E2.out, Ec10.out]
  by_cases h9 : c10.e = 0
  · have ex_ : parse 1 17 l = (m9, 0) := by rw [he1, if_neg (fun h => h h9)]
    have EX := Aside0.mk ex_
    have g1 : (c10.e != 0) = false := by rw [h9]; rfl
    have g2 : (c10.e == 0) = true := by rw [h9]; rfl
    clear h9 ex_ he1
    obtain ⟨cx, h_, hz_, hm_⟩ := PS.St.held2 HP.out
    have H := Aside0.mk h_
    have HZ := Aside0.mk hz_
    have HM := Aside0.mk hm_
    have HB := Aside0.mk HP.out.b
    clear h_ hz_ hm_ HP
    go_wp2_with (first | ((with_reducible refine gate_dst (N := 46) rfl ?_); refine ev_load (x := .tmp 8) rfl rfl rfl H.out (i := 1) rfl (HZ.out) ?_) | ((with_reducible refine gate_op (u := .store 30 (.tmp 6) (.tmp 46)) rfl ?_); refine ev_store rfl rfl rfl rfl H.out (i := 0) rfl rfl (HM.out _ ⟨rfl, rfl, rfl, Kept.refl _ _⟩) ?_; intro x91 h3_ h4_; have HE := Aside0.mk (HM.out _ h4_); clear h4_; have n0_ := Aside0.mk (h3_); clear H; have H := n0_; clear n0_; clear h3_))
    refine bodyPost_ret (results_ct rfl _ _ gr 30 _ (0, 0) _ rfl (H.out.at 0 rfl) Try.underlying30 rfl (msg_info (HZ.out))) rfl (by rw [EX.out]; exact ⟨_, rfl, HE.out, H.out.b⟩)
  · have ex_ : parse 1 17 l = (zeroM, c10.e) := by rw [he1, if_pos h9]
    have EX := Aside0.mk ex_
    have g1 : (c10.e != 0) = true := by simpa using h9
    have g2 : (c10.e == 0) = false := by simpa using h9
    clear h9 ex_ he1
    have H := Aside0.mk (PS.St.held HP.out)
    clear HP
    go_wp2_with (first | ((with_reducible refine gate_dst (N := 44) rfl ?_); refine ev_build (zeroC) rfl (by go_simp; first | rfl | done) ?_; intro cx hcx_; have M := Aside0.mk (show ∀ W, IsMsg W cx _ from fun W => by rw [hcx_]; exact zero_is W); clear hcx_) | ((with_reducible refine gate_op (u := .store 30 (.tmp 6) (.tmp 44)) rfl ?_); refine ev_store rfl rfl rfl rfl H.out (i := 0) rfl (rfl) (M.out w0) ?_; intro x90 h3_ h4_; have n0_ := Aside0.mk (h3_); clear H; have H := n0_; clear n0_; clear h3_ h4_))
    refine bodyPost_ret (results_ct rfl _ _ gr 30 _ (0, 0) _ rfl (H.out.at 0 rfl) Try.underlying30 rfl (msg_info ((M.out w0).size))) rfl (by rw [EX.out]; exact ⟨_, rfl, M.out _, H.out.b⟩)
theorem parse_any {dir code : Int} {A : Option Addr} {c : Nat} {l : List Int} {w0 : World} (hr : Kd.C (Kd.int .u8) w0 A l.length l) (hc : l.length ≤ c) (hs : l.length ≤ 1000000) (hb : isBytes l) (hcd : 0 ≤ code ∧ code < 256) :
    Calls Try.prog 12 #[.int .i64 dir, .int .u8 code, .slice A l.length c] w0 fun en w' => ∃ cx, en = .returned (.tuple #[.agg cx, .int .i64 (parse dir code l).2]) ∧ IsMsg w' cx (parse dir code l).1 ∧ Below w0.heap.size w0 w' := by
  by_cases h0 : dir = 0
  · subst h0
    by_cases k7 : code = 7
    · subst k7; exact parse_0_7 hr hc hs hb
    by_cases k8 : code = 8
    · subst k8; exact parse_0_8 hr hc hs hb
    by_cases k11 : code = 11
    · subst k11; exact parse_0_11 hr hc hs hb
    by_cases k12 : code = 12
    · subst k12; exact parse_0_12 hr hc hs hb
    by_cases k17 : code = 17
    · subst k17; exact parse_0_17 hr hc hs hb
    have hn : ¬ isCode code := by unfold isCode; omega
    have e : parse 0 code l = (zeroM, 4) := by unfold parse; rw [if_neg (by decide), if_pos hn]
    rw [e]; exact parse_no0 hr hc hs hb hcd hn
  by_cases h1 : dir = 1
  · subst h1
    by_cases k7 : code = 7
    · subst k7; exact parse_1_7 hr hc hs hb
    by_cases k8 : code = 8
    · subst k8; exact parse_1_8 hr hc hs hb
    by_cases k11 : code = 11
    · subst k11; exact parse_1_11 hr hc hs hb
    by_cases k12 : code = 12
    · subst k12; exact parse_1_12 hr hc hs hb
    by_cases k17 : code = 17
    · subst k17; exact parse_1_17 hr hc hs hb
    have hn : ¬ isCode code := by unfold isCode; omega
    have e : parse 1 code l = (zeroM, 4) := by unfold parse; rw [if_neg (by decide), if_pos hn]
    rw [e]; exact parse_no1 hr hc hs hb hcd hn
  have e : parse dir code l = (zeroM, 1) := by unfold parse; rw [if_pos ⟨h0, h1⟩]
  rw [e]; exact parse_dir hr hc hs hb h0 h1
end Go.Proofs.Ytalaochocmcbcaa.Diag
end
section
namespace Go.Proofs.Ytalaochocmcbcaa.P
open Go.RowKit Go.Proofs.YtalaochocmcbcaaW.PrintWords Go.Proofs.YtalaochocmcbcaaW.PrintLast Go.Proofs.YtalaochocmcbcaaW.PrintMore
attribute [local go_sem] max2_int min2_int max_two min_two max_three min_three max_four min_four   -- for this text's walks alone
def busbarref10_may.f (a0 : Int) (a1 : Int) (a2 : Int) : Option (Bool) := if a1 = 1 then (if a2 = 0 then (some true) else (some (a2 == 65280))) else (if a1 = 3 then (some ((Int.tmod a2 256) == 0)) else (if a0 = 1 then (if a1 = 2 then (some true) else (if a1 ≥ 11 then (if a1 ≤ 18 then (some true) else (some (a2 == 0))) else (some (a2 == 0)))) else (some (a2 == 0))))
theorem busbarref10_may.calls (a0 : Int) (a1 : Int) (a2 : Int) (r : Bool) (w : World) (h : busbarref10_may.f a0 a1 a2 = some r) :
    Calls Try.prog 29 #[.int .i64 a0, .int .u16 a1, .int .u16 a2] w fun e w' => e = .returned (.bool r) ∧ Drawn0 w w' := by
  have H : (if a1 = 1 then (if a2 = 0 then (some true) else (some (a2 == 65280))) else (if a1 = 3 then (some ((Int.tmod a2 256) == 0)) else (if a0 = 1 then (if a1 = 2 then (some true) else (if a1 ≥ 11 then (if a1 ≤ 18 then (some true) else (some (a2 == 0))) else (some (a2 == 0)))) else (some (a2 == 0))))) = some r := h
  clear h
  by_cases c4 : a1 = 1
  · rw [if_pos c4] at H
    have c4b0 : (a1 == 1) = true := beq_iff_eq.mpr c4
    have c4b1 : (a1 != 1) = false := bne_eq_false_iff_eq.mpr c4
    clear c4
    by_cases c5 : a2 = 0
    · rw [if_pos c5] at H
      have c5b0 : (a2 == 0) = true := beq_iff_eq.mpr c5
      have c5b1 : (a2 != 0) = false := bne_eq_false_iff_eq.mpr c5
      clear c5
      obtain rfl := Option.some.inj H
      go_enter Try.func29, Try.ntmps29
      go_wp2
      go_ret
      exact ⟨by first | rfl | (simp; done) | (simp [*]; done), by repeat (first | exact Drawn0.refl _ | apply Drawn0.step)⟩
    · rw [if_neg c5] at H
      have c5b0 : (a2 == 0) = false := beq_eq_false_iff_ne.mpr c5
      have c5b1 : (a2 != 0) = true := bne_iff_ne.mpr c5
      obtain rfl := Option.some.inj H
      go_enter Try.func29, Try.ntmps29
      go_wp2
      go_ret
      exact ⟨by first | rfl | (simp; done) | (simp [*]; done), by repeat (first | exact Drawn0.refl _ | apply Drawn0.step)⟩
  · rw [if_neg c4] at H
    have c4b0 : (a1 == 1) = false := beq_eq_false_iff_ne.mpr c4
    have c4b1 : (a1 != 1) = true := bne_iff_ne.mpr c4
    by_cases c6 : a1 = 3
    · rw [if_pos c6] at H
      have c6b0 : (a1 == 3) = true := beq_iff_eq.mpr c6
      have c6b1 : (a1 != 3) = false := bne_eq_false_iff_eq.mpr c6
      clear c6
      obtain rfl := Option.some.inj H
      go_enter Try.func29, Try.ntmps29
      go_wp2
      go_ret
      exact ⟨by first | rfl | (simp; done) | (simp [*]; done), by repeat (first | exact Drawn0.refl _ | apply Drawn0.step)⟩
    · rw [if_neg c6] at H
      have c6b0 : (a1 == 3) = false := beq_eq_false_iff_ne.mpr c6
      have c6b1 : (a1 != 3) = true := bne_iff_ne.mpr c6
      by_cases c7 : a0 = 1
      · rw [if_pos c7] at H
        have c7b0 : (a0 == 1) = true := beq_iff_eq.mpr c7
        have c7b1 : (a0 != 1) = false := bne_eq_false_iff_eq.mpr c7
        clear c7
        by_cases c8 : a1 = 2
        · rw [if_pos c8] at H
          have c8b0 : (a1 == 2) = true := beq_iff_eq.mpr c8
          have c8b1 : (a1 != 2) = false := bne_eq_false_iff_eq.mpr c8
          clear c8
          obtain rfl := Option.some.inj H
          go_enter Try.func29, Try.ntmps29
          go_wp2
          go_ret
          exact ⟨by first | rfl | (simp; done) | (simp [*]; done), by repeat (first | exact Drawn0.refl _ | apply Drawn0.step)⟩
        · rw [if_neg c8] at H
          have c8b0 : (a1 == 2) = false := beq_eq_false_iff_ne.mpr c8
          have c8b1 : (a1 != 2) = true := bne_iff_ne.mpr c8
          by_cases c9 : a1 ≥ 11
          · rw [if_pos c9] at H
            have c9b0 : decide (11 ≤ a1) = true := decide_eq_true c9
            clear c9
            by_cases c10 : a1 ≤ 18
            · rw [if_pos c10] at H
              have c10b0 : decide (a1 ≤ 18) = true := decide_eq_true c10
              clear c10
              obtain rfl := Option.some.inj H
              go_enter Try.func29, Try.ntmps29
              go_wp2
              go_ret
              exact ⟨by first | rfl | (simp; done) | (simp [*]; done), by repeat (first | exact Drawn0.refl _ | apply Drawn0.step)⟩
            · rw [if_neg c10] at H
              have c10b0 : decide (a1 ≤ 18) = false := decide_eq_false c10
              clear c10
              obtain rfl := Option.some.inj H
              go_enter Try.func29, Try.ntmps29
              go_wp2
              go_ret
              exact ⟨by first | rfl | (simp; done) | (simp [*]; done), by repeat (first | exact Drawn0.refl _ | apply Drawn0.step)⟩
          · rw [if_neg c9] at H
            have c9b0 : decide (11 ≤ a1) = false := decide_eq_false c9
            clear c9
            obtain rfl := Option.some.inj H
            go_enter Try.func29, Try.ntmps29
            go_wp2
            go_ret
            exact ⟨by first | rfl | (simp; done) | (simp [*]; done), by repeat (first | exact Drawn0.refl _ | apply Drawn0.step)⟩
      · rw [if_neg c7] at H
        have c7b0 : (a0 == 1) = false := beq_eq_false_iff_ne.mpr c7
        have c7b1 : (a0 != 1) = true := bne_iff_ne.mpr c7
        obtain rfl := Option.some.inj H
        go_enter Try.func29, Try.ntmps29
        go_wp2
        go_ret
        exact ⟨by first | rfl | (simp; done) | (simp [*]; done), by repeat (first | exact Drawn0.refl _ | apply Drawn0.step)⟩
end Go.Proofs.Ytalaochocmcbcaa.P
end
section
namespace Go.Proofs.Ytalaochocmcbcaa.P
open Go.RowKit Go.Proofs.YtalaochocmcbcaaW.PrintWords Go.Proofs.YtalaochocmcbcaaW.PrintLast Go.Proofs.YtalaochocmcbcaaW.PrintMore
attribute [local go_sem] max2_int min2_int max_two min_two max_three min_three max_four min_four   -- for this text's walks alone
def busbarref07_Sub.f (a0 : Int) : Option (Bool) := if a0 ≤ 4 then (some true) else (if a0 ≥ 10 then (if a0 ≤ 18 then (some true) else (some (a0 == 20))) else (some (a0 == 20)))
theorem busbarref07_Sub.calls (a0 : Int) (r : Bool) (w : World) (h : busbarref07_Sub.f a0 = some r) :
    Calls Try.prog 19 #[.int .u16 a0] w fun e w' => e = .returned (.bool r) ∧ Drawn0 w w' := by
  have H : (if a0 ≤ 4 then (some true) else (if a0 ≥ 10 then (if a0 ≤ 18 then (some true) else (some (a0 == 20))) else (some (a0 == 20)))) = some r := h
  clear h
  by_cases c2 : a0 ≤ 4
  · rw [if_pos c2] at H
    have c2b0 : decide (a0 ≤ 4) = true := decide_eq_true c2
    clear c2
    obtain rfl := Option.some.inj H
    go_enter Try.func19, Try.ntmps19
    go_wp2
    go_ret
    exact ⟨by first | rfl | (simp; done) | (simp [*]; done), by repeat (first | exact Drawn0.refl _ | apply Drawn0.step)⟩
  · rw [if_neg c2] at H
    have c2b0 : decide (a0 ≤ 4) = false := decide_eq_false c2
    clear c2
    by_cases c3 : a0 ≥ 10
    · rw [if_pos c3] at H
      have c3b0 : decide (10 ≤ a0) = true := decide_eq_true c3
      clear c3
      by_cases c4 : a0 ≤ 18
      · rw [if_pos c4] at H
        have c4b0 : decide (a0 ≤ 18) = true := decide_eq_true c4
        clear c4
        obtain rfl := Option.some.inj H
        go_enter Try.func19, Try.ntmps19
        go_wp2
        go_ret
        exact ⟨by first | rfl | (simp; done) | (simp [*]; done), by repeat (first | exact Drawn0.refl _ | apply Drawn0.step)⟩
      · rw [if_neg c4] at H
        have c4b0 : decide (a0 ≤ 18) = false := decide_eq_false c4
        clear c4
        obtain rfl := Option.some.inj H
        go_enter Try.func19, Try.ntmps19
        go_wp2
        go_ret
        exact ⟨by first | rfl | (simp; done) | (simp [*]; done), by repeat (first | exact Drawn0.refl _ | apply Drawn0.step)⟩
    · rw [if_neg c3] at H
      have c3b0 : decide (10 ≤ a0) = false := decide_eq_false c3
      clear c3
      obtain rfl := Option.some.inj H
      go_enter Try.func19, Try.ntmps19
      go_wp2
      go_ret
      exact ⟨by first | rfl | (simp; done) | (simp [*]; done), by repeat (first | exact Drawn0.refl _ | apply Drawn0.step)⟩
end Go.Proofs.Ytalaochocmcbcaa.P
end
