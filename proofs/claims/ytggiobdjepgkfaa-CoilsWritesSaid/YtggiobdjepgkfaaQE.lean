/- What the laws of this chapter rest on, part 5: what the functions that they reach answer, each shown once. Conditions: what each theorem states. (Merged by a program of this session, wip/tools/merge.py, out of its own texts and of the words that the kit's print wrote for this seat, cut to those that are used.) -/
import Derived.Maps.OwnOps
import Derived.Maps.Views
import Derived.Test.YtggiobdjepgkfaaQD
set_option linter.unusedVariables false
set_option linter.unusedSimpArgs false
set_option maxHeartbeats 16000000
set_option maxRecDepth 100000
section
namespace Go.Proofs.Ytggiobdjepgkfaa.Coil
open Go.RowKit Go.Maps Go.Proofs.Ytggiobdjepgkfaa.P Go.Proofs.Ytggiobdjepgkfaa.E Go.Proofs.Ytggiobdjepgkfaa.Cur Go.Proofs.Ytggiobdjepgkfaa.Cu Go.Proofs.Ytggiobdjepgkfaa.Same Go.Proofs.Ytggiobdjepgkfaa.Bits Go.Proofs.YtggiobdjepgkfaaW.PrintWords Go.Proofs.YtggiobdjepgkfaaW.PrintLast Go.Proofs.YtggiobdjepgkfaaW.PrintMore
def bodyR (dir code : Int) (m : Msg) : (Cu → Cu × Msg) := if code = 1 ∨ code = 2 then (if dir = 0 then spanR 2000 m else toldR m) else if code = 5 then setsR m else if dir = 0 then manyR m else spanR 1968 m
def parse (dir code : Int) (bs : List Int) : Msg × Int :=
  if dir ≠ 0 ∧ dir ≠ 1 then (zeroM, 1) else if ¬ (code = 1 ∨ code = 2 ∨ code = 5 ∨ code = 15) then (zeroM, 4) else
  if (bodyR dir code { zeroM with code := code } (cu bs)).1.fin.e ≠ 0 then (zeroM, (bodyR dir code { zeroM with code := code } (cu bs)).1.fin.e) else ((bodyR dir code { zeroM with code := code } (cu bs)).2, 0)
def V1 (g gm : Nat) : Array Value := #[(.func (.func 21) #[.agg #[.pointer (some ⟨g, 0, none⟩), .pointer (some ⟨gm, 0, none⟩)]] #[]), (.func (.func 22) #[.agg #[.pointer (some ⟨g, 0, none⟩), .pointer (some ⟨gm, 0, none⟩)]] #[])]
def V5 (g gm : Nat) : Array Value := #[(.func (.func 23) #[.agg #[.pointer (some ⟨g, 0, none⟩), .pointer (some ⟨gm, 0, none⟩)]] #[]), (.func (.func 23) #[.agg #[.pointer (some ⟨g, 0, none⟩), .pointer (some ⟨gm, 0, none⟩)]] #[])]
def V15 (g gm : Nat) : Array Value := #[(.func (.func 24) #[.agg #[.pointer (some ⟨g, 0, none⟩), .pointer (some ⟨gm, 0, none⟩)]] #[]), (.func (.func 25) #[.agg #[.pointer (some ⟨g, 0, none⟩), .pointer (some ⟨gm, 0, none⟩)]] #[])]
def VZ : Array Value := #[.nilFunc, .nilFunc]
open Classical in
noncomputable def RV (g gm : Nat) (v : Value) : Option (DataW Unit × List MemPlace) := if v = .agg (V1 g gm) then some (.lit (.int .i64 1), []) else if v = .agg (V5 g gm) then some (.lit (.int .i64 5), []) else if v = .agg (V15 g gm) then some (.lit (.int .i64 15), []) else none
theorem RV_1 (g gm : Nat) : RV g gm (.agg (V1 g gm)) = some (.lit (.int .i64 1), []) := if_pos rfl
theorem RV_5 (g gm : Nat) : RV g gm (.agg (V5 g gm)) = some (.lit (.int .i64 5), []) := by
  unfold RV
  rw [if_neg (by simp [V1, V5]), if_pos rfl]
theorem RV_15 (g gm : Nat) : RV g gm (.agg (V15 g gm)) = some (.lit (.int .i64 15), []) := by
  unfold RV
  rw [if_neg (by simp [V1, V15]), if_neg (by simp [V5, V15]), if_pos rfl]
theorem RV_inv {g gm : Nat} {v : Value} {y : DataW Unit × List MemPlace} (h : RV g gm v = some y) : (y.1 = .lit (.int .i64 1) → v = .agg (V1 g gm)) ∧ (y.1 = .lit (.int .i64 5) → v = .agg (V5 g gm)) ∧ (y.1 = .lit (.int .i64 15) → v = .agg (V15 g gm)) := by
  unfold RV at h
  split at h
  · rename_i e; cases h; exact ⟨fun _ => e, fun e => by simp at e, fun e => by simp at e⟩
  split at h
  · rename_i e; cases h; exact ⟨fun e => by simp at e, fun _ => e, fun e => by simp at e⟩
  split at h
  · rename_i e; cases h; exact ⟨fun e => by simp at e, fun e => by simp at e, fun _ => e⟩
  · cases h
def dl (n : Int) : DataW Unit := .lit (.int .i64 n)
def D0 : DataW Unit := .map []
def D4 : DataW Unit := (((D0.put (.int .u8 1) (dl 1)).put (.int .u8 2) (dl 1)).put (.int .u8 5) (dl 5)).put (.int .u8 15) (dl 15)
theorem D4_at (c : Int) (zd : DataW Unit) : D4.atKey (.int .u8 c) zd = if c = 15 then dl 15 else if c = 5 then dl 5 else if c = 2 then dl 1 else if c = 1 then dl 1 else zd := by
  have h0 : IsMap D0 := ⟨[], rfl⟩
  have ne : ∀ a b : Int, a ≠ b → Lit.int .u8 a ≠ Lit.int .u8 b := fun a b h e => h (by injection e)
  unfold D4
  by_cases h : c = 15
  · subst h; rw [if_pos rfl]; exact atKey_put_same (((h0.put _ _).put _ _).put _ _) (by trivial) _ _
  rw [if_neg h, atKey_put_other (ne _ _ h)]
  by_cases h : c = 5
  · subst h; rw [if_pos rfl]; exact atKey_put_same ((h0.put _ _).put _ _) (by trivial) _ _
  rw [if_neg h, atKey_put_other (ne _ _ h)]
  by_cases h : c = 2
  · subst h; rw [if_pos rfl]; exact atKey_put_same (h0.put _ _) (by trivial) _ _
  rw [if_neg h, atKey_put_other (ne _ _ h)]
  by_cases h : c = 1
  · subst h; rw [if_pos rfl]; exact atKey_put_same h0 (by trivial) _ _
  rw [if_neg h, atKey_put_other (ne _ _ h)]
  rfl
theorem lawk : Keyed Try.prog 5 := int_keyed Try.underlying5
theorem zeroP (w : World) : (zeroValue 51).run Try.prog w = .ok (.agg VZ) w := by kernel_rfl
theorem look_p {g gm : Nat} {w : World} {b n : Nat} (h : w.ownsMap Try.prog 5 (RV g gm) b n D4) (c : Int) (hc : (Lit.int .u8 c).wf = true) :
    (Instr.lookup 52 (.map (some b)) (.int .u8 c) true).run Try.prog w = .ok (if c = 1 ∨ c = 2 then .tuple #[.agg (V1 g gm), .bool true] else if c = 5 then .tuple #[.agg (V5 g gm), .bool true] else if c = 15 then .tuple #[.agg (V15 g gm), .bool true] else .tuple #[.agg VZ, .bool false]) w := by
  obtain ⟨es, clock, hb, F, _, hD⟩ := h
  rcases fit_look true lawk Try.underlying52 (zeroP _) hb F (keyOf_int_mk Try.underlying5 hc) with ⟨hrun, _, hat⟩ | ⟨e0, y, _, _, hrun, hRv, hat, _⟩
  · rw [if_pos rfl] at hrun
    rw [hrun]
    have ha := hat (dl 77)
    rw [← hD, D4_at] at ha
    have n15 : ¬ c = 15 := fun e => by rw [if_pos e] at ha; simp [dl] at ha
    rw [if_neg n15] at ha
    have n5 : ¬ c = 5 := fun e => by rw [if_pos e] at ha; simp [dl] at ha
    rw [if_neg n5] at ha
    have n2 : ¬ c = 2 := fun e => by rw [if_pos e] at ha; simp [dl] at ha
    rw [if_neg n2] at ha
    have n1 : ¬ c = 1 := fun e => by rw [if_pos e] at ha; simp [dl] at ha
    rw [if_neg (show ¬ (c = 1 ∨ c = 2) by omega), if_neg n5, if_neg n15]
  · rw [if_pos rfl] at hrun
    rw [hrun]
    have R := RV_inv hRv
    have ha := hat (dl 77)
    have hb := hat (dl 78)
    rw [← hD, D4_at] at ha hb
    by_cases h15 : c = 15
    · rw [if_pos h15] at ha
      rw [if_neg (show ¬ (c = 1 ∨ c = 2) by omega), if_neg (show ¬ c = 5 by omega), if_pos h15, R.2.2 ha.symm]
    rw [if_neg h15] at ha hb
    by_cases h5 : c = 5
    · rw [if_pos h5] at ha
      rw [if_neg (show ¬ (c = 1 ∨ c = 2) by omega), if_pos h5, R.2.1 ha.symm]
    rw [if_neg h5] at ha hb
    by_cases h2 : c = 2
    · rw [if_pos h2] at ha
      rw [if_pos (show c = 1 ∨ c = 2 from .inr h2), R.1 ha.symm]
    rw [if_neg h2] at ha hb
    by_cases h1 : c = 1
    · rw [if_pos h1] at ha
      rw [if_pos (show c = 1 ∨ c = 2 from .inl h1), R.1 ha.symm]
    rw [if_neg h1] at ha hb
    exact absurd (ha.trans hb.symm) (by simp [dl])
theorem ev_insert {H : Type} {P : Program} (w : World) {ops : Array Oper} {rest : List Oper} {o : Oper} {a : Act} {Q : Exit → Act → World → Prop}
    (hg : o.guard = none) (m x v : Operand) (t : TypeId) (hop : o.op = Op.insert t m x v)
    (k e : TypeId) (K : Keyed P k) (ht : P.underlying t = some (.map k e)) (R : Value → Option (DataW H × List MemPlace)) (b n : Nat) (D : DataW H)
    (hm : a.eval m = .map (some b)) (hown : w.ownsMap P k R b n D) (hn : n < maxLen) (key val : Value) (kl : Lit) (hx : a.eval x = key) (hv : a.eval v = val) (hkey : keyOf P k key = some kl)
    (d : DataW H) (ps : List MemPlace) (hval : R val = some (d, ps))
    (hK : ∀ w', w'.ownsMap P k R b (n + 1) (D.put kl d) → w.grownBy w' (some b) → wpList P ops Q rest (a.put o.dst undef) w') :
    wpList P ops Q (o :: rest) a w := by
  refine wpList_plain hg fun K' hK' => ?_
  obtain ⟨w', hrun, r1, r2⟩ := hown.update K ht hn hkey hval
  unfold Oper.wp
  simp [execOp, hop, hm, hx, hv, hrun, Result.andThen]
  exact hK' _ _ (hK w' r1 r2)
theorem ev_var2 {ops : Array Oper} {rest : List Oper} {o1 o2 : Oper} {a : Act} {w : World} {Q : Exit → Act → World → Prop} {x y : Operand} {cx zc : Array Value} (ty : TypeId)
    (hal : ∀ W, (execOp a.eval o1).run Try.prog W = .ok (.value (.pointer (some ⟨W.heap.size, 0, none⟩))) (W.alloc (.cells zc ty (0, 0)))) (hg1 : o1.guard = none) (ho2 : o2.op = .store ty x y) (hg2 : o2.guard = none) (hd2 : o2.dst = none) (hs : zc.size = cx.size) (hi : (Try.prog.info? ty).map (·.size) = some cx.size) (h1 : cx.all (·.oneCell') = true)
    (hx : (a.put o1.dst (.pointer (some ⟨w.heap.size, 0, none⟩))).eval x = .pointer (some ⟨w.heap.size, 0, none⟩)) (hy : (a.put o1.dst (.pointer (some ⟨w.heap.size, 0, none⟩))).eval y = .agg cx)
    (h : ∀ g w', g = w.heap.size → w'.heap[g]? = some (.cells cx ty (0, 0)) → Below w.heap.size w w' → wpList Try.prog ops Q rest (a.put o1.dst (.pointer (some ⟨g, 0, none⟩))) w') : wpList Try.prog ops Q (o1 :: o2 :: rest) a w := by
  refine Kd.event_run hg1 (hal w) ?_
  refine Same.wpList_store_row ty x y ho2 hg2 hx hy (blk_new w _) hs hi h1 (fun w' h1 h2 => ?_)
  rw [hd2]
  exact h _ w' rfl h1 ((below_alloc (Below.refl _ _) _).trans ((h2.below (Nat.le_refl _) (by simp)).mono (by simp)))
theorem run_alloc_form (ev : Operand → Value) (o : Oper) (ho : o.op = .alloc 50) (W : World) : (execOp ev o).run Try.prog W = .ok (.value (.pointer (some ⟨W.heap.size, 0, none⟩))) (W.alloc (.cells #[.pointer none, .pointer none] 50)) := by
  unfold execOp
  rw [ho]
  kernel_rfl
theorem run_alloc_pair (ev : Operand → Value) (o : Oper) (ho : o.op = .alloc 51) (W : World) : (execOp ev o).run Try.prog W = .ok (.value (.pointer (some ⟨W.heap.size, 0, none⟩))) (W.alloc (.cells VZ 51)) := by
  unfold execOp
  rw [ho]
  kernel_rfl
theorem St_first {w0 w1 w2 w3 : World} {gr gm g : Nat} {cx : Array Value} {m : Msg} {c : Cu} (hg : gr = w0.heap.size) (hk : w1.heap[gr]? = some (.cells zeroC 30 (0, 0))) (hb : Below w0.heap.size w0 w1) (hm : gm = w1.heap.size) (hk2 : w2.heap[gm]? = some (.cells cx 30 (0, 0))) (hb2 : Below w1.heap.size w1 w2) (M : ∀ W, IsMsg W cx m) (nl : NilL cx)
    (h1 : w2.heap.size ≤ g) (hc : PAt w2.heap.size g w3 g c) (h2 : Below w2.heap.size w2 w3) : PS.St w0 gr g gm w3 c m := by
  have l1 := blk_lt hk
  have l2 := blk_lt hk2
  have s0 := hb.size
  have s1 := hb2.size
  exact ⟨hb.trans ((hb2.mono hb.size).trans (h2.mono (Nat.le_trans hb.size hb2.size))), ⟨w2.heap.size, g, hc, .inl l2, .inl (by omega)⟩, ⟨cx, blk_below hk2 h2, fun W' _ => M W'⟩, blk_below (blk_below hk hb2) h2, ⟨by omega, by omega, by omega⟩, ⟨by omega, by omega, by omega⟩, ⟨cx, blk_below hk2 h2, nl⟩⟩
theorem parse_dir {A : Option Addr} {c : Nat} {l : List Int} {w0 : World} (hr : Kd.C (Kd.int .u8) w0 A l.length l) (hc : l.length ≤ c) (hs : l.length ≤ 1000000) (hb : isBytes l) {dir code : Int} (h0 : dir ≠ 0) (h1 : dir ≠ 1) :
    Calls Try.prog 13 #[.int .i64 dir, .int .u8 code, .slice A l.length c] w0 fun en w' => ∃ cx, en = .returned (.tuple #[.agg cx, .int .i64 1]) ∧ IsMsg w' cx zeroM ∧ Below w0.heap.size w0 w' := by
  clear hr hc hs hb
  have H := Aside0.mk (Held.start w0)
  have e0 : (dir != 0) = true := by simpa using h0
  have e1 : (dir != 1) = true := by simpa using h1
  have e0' : (dir == 0) = false := by simpa using h0
  have e1' : (dir == 1) = false := by simpa using h1
  clear h0 h1
  go_enter Try.func13, Try.ntmps13
  go_wp2_with (first | ((with_reducible refine gate_dst (N := 6) rfl ?_); refine ev_alloc rfl rfl ?_; intro g w1 hg_ h1_ h2_; have n0_ := Aside0.mk (H.out.new hg_ h1_ h2_); clear H; have H := n0_; clear n0_; clear h1_ h2_ hg_) | ((with_reducible refine gate_dst (N := 20) rfl ?_); refine ev_build (zeroC) rfl (by go_simp; first | rfl | done) ?_; intro cx hcx_; have M := Aside0.mk (show ∀ W, IsMsg W cx _ from fun W => by rw [hcx_]; exact zero_is W); clear hcx_) | ((with_reducible refine gate_op (u := .store 30 (.tmp 6) (.tmp 20)) rfl ?_); refine ev_store rfl rfl rfl rfl H.out (i := 0) rfl (rfl) (M.out w0) ?_; intro w2 h3_ h4_; have n0_ := Aside0.mk (h3_); clear H; have H := n0_; clear n0_; clear h3_ h4_))
  refine bodyPost_ret (results_ct rfl _ _ g 30 cx (0, 0) _ rfl (H.out.at 0 rfl) Try.underlying30 rfl (msg_info ((M.out w0).size))) rfl (⟨cx, rfl, M.out _, H.out.b⟩)
theorem parse_no0 {A : Option Addr} {c : Nat} {l : List Int} {w0 : World} (hr : Kd.C (Kd.int .u8) w0 A l.length l) (hc : l.length ≤ c) (hs : l.length ≤ 1000000) (hb : isBytes l) {code : Int} (hcd : 0 ≤ code ∧ code < 256) (hk : ¬ (code = 1 ∨ code = 2 ∨ code = 5 ∨ code = 15)) :
    Calls Try.prog 13 #[.int .i64 0, .int .u8 code, .slice A l.length c] w0 fun en w' => ∃ cx, en = .returned (.tuple #[.agg cx, .int .i64 4]) ∧ IsMsg w' cx zeroM ∧ Below w0.heap.size w0 w' := by
  have HR := Aside0.mk hr
  have HC := Aside0.mk hc
  have HS := Aside0.mk hs
  have HBB := Aside0.mk hb
  clear hr hc hs hb
  have hmm := @run_makeMap Try.prog
  have HKB := Aside0.mk hcd
  clear hcd
  have HKN := Aside0.mk hk
  clear hk
  go_enter Try.func13, Try.ntmps13
  go_upto_region 3 with (first | ((with_reducible refine gate_dst (N := 6) rfl ?_); refine ev_alloc rfl rfl ?_; intro gr w1 hg_ h1_ h2_; have HG := Aside0.mk hg_; have H1 := Aside0.mk h1_; have H2 := Aside0.mk h2_; clear hg_ h1_ h2_))
  go_upto_region 4 with (first | ((with_reducible refine gate_dst (N := 22) rfl ?_); refine ev_build ((zeroC.setIfInBounds 0 (.int .u8 (code)))) rfl (by go_simp; first | rfl | done) ?_; intro cx hcx_; have M := Aside0.mk (show ∀ W, IsMsg W cx _ from fun W => by rw [hcx_]; exact (fun W => set_code (zero_is W) (v := code) ⟨by have := HKB.out; omega, by have := HKB.out; omega⟩) W); have NL := Aside0.mk (show NilL cx by rw [hcx_]; exact PS.zero_nil.set (by decide)); clear hcx_) | ((with_reducible refine gate_dst (N := 8) rfl ?_); refine ev_var (y := .tmp 22) rfl rfl rfl rfl rfl (M.out w0) rfl rfl ?_; intro gm w2 hg_ h1_ hb_; have HM1 := Aside0.mk hg_; have HM2 := Aside0.mk h1_; have HM3 := Aside0.mk hb_; clear h1_ hb_ hg_))
  go_upto_region 5 with (first | (go_at_call 20; (with_reducible refine (p_new A c l _ (Kd.C_below HR.out (H2.out.trans (HM3.out.mono H2.out.size))) HC.out HS.out HBB.out).mono ?_); rintro en w3 ⟨g, rfl, q1_, q2_, q3_, q4_⟩; have HP := Aside0.mk (St_first HG.out H1.out H2.out HM1.out HM2.out HM3.out M.out NL.out q1_ q2_ q3_); clear q1_ q2_ q3_ q4_ H1 H2 HG HM1 HM2 HM3) | ((with_reducible refine gate_dst (N := 9) rfl ?_); refine ev_var2 (y := .tmp 25) (cx := #[.pointer (some ⟨g, 0, none⟩), .pointer (some ⟨gm, 0, none⟩)]) (zc := #[.pointer none, .pointer none]) 50 (fun W => run_alloc_form _ _ rfl W) rfl rfl rfl rfl rfl (by kernel_rfl) (by simp [Value.oneCell']) rfl rfl ?_; intro gf w4 hg_ h1_ hb_; have hl_ := PS.Sk.lt (PS.Sk.start HP.out); have HF1 := Aside0.mk (show gf ≠ g from by omega); have HF2 := Aside0.mk (show gf ≠ gm from by omega); have HFB := Aside0.mk h1_; have n0_ := Aside0.mk (PS.St.below HP.out hb_); clear HP; have HP := n0_; clear n0_ h1_ hb_ hg_ hl_))
  have k0 : w4.cell? ⟨gf, 0, none⟩ = some (.pointer (some ⟨g, 0, none⟩)) := (blk_cell HFB.out 0).trans rfl
  have k1 : w4.cell? ⟨gf, 1, none⟩ = some (.pointer (some ⟨gm, 0, none⟩)) := (blk_cell HFB.out 1).trans rfl
  have O : Aside0 ((w4.alloc (.map #[] 0)).ownsMap Try.prog 5 (RV g gm) w4.heap.size 0 D0) := ⟨World.ownsMap_made _ _ _ _⟩
  have HB := Aside0.mk ((Below.refl w4.heap.size w4).alloc (Nat.le_refl _) (.map #[] 0))
  replace k0 : (w4.alloc (.map #[] 0)).cell? ⟨gf, 0, none⟩ = some (.pointer (some ⟨g, 0, none⟩)) := (blk_cell (blk_below HFB.out HB.out) 0).trans rfl
  replace k1 : (w4.alloc (.map #[] 0)).cell? ⟨gf, 1, none⟩ = some (.pointer (some ⟨gm, 0, none⟩)) := (blk_cell (blk_below HFB.out HB.out) 1).trans rfl
  go_upto_region 6 with (first | ((with_reducible refine gate_op (u := .insert 52 (.tmp 26) (.const (.int .u8 1)) (.tmp 31)) rfl ?_); refine ev_insert _ rfl _ _ _ 52 rfl 5 51 lawk Try.underlying52 (RV g gm) w4.heap.size 0 _ rfl O.out (by unfold maxLen; omega) _ (.agg (V1 g gm)) _ rfl rfl (keyOf_int_mk Try.underlying5 (by decide)) _ [] (RV_1 g gm) ?_; intro x0 o_ g_; have n0_ := Aside0.mk o_; have n1_ := Aside0.mk (HB.out.grown g_ HB.out.size (fun j hj => by cases hj; exact Nat.le_refl _)); clear O HB o_ g_; have O := n0_; have HB := n1_; clear n0_ n1_; have k0 : x0.cell? ⟨gf, 0, none⟩ = some (.pointer (some ⟨g, 0, none⟩)) := (blk_cell (blk_below HFB.out HB.out) 0).trans rfl; have k1 : x0.cell? ⟨gf, 1, none⟩ = some (.pointer (some ⟨gm, 0, none⟩)) := (blk_cell (blk_below HFB.out HB.out) 1).trans rfl) | ((with_reducible refine gate_op (u := .insert 52 (.tmp 26) (.const (.int .u8 2)) (.tmp 36)) rfl ?_); refine ev_insert _ rfl _ _ _ 52 rfl 5 51 lawk Try.underlying52 (RV g gm) w4.heap.size 1 _ rfl O.out (by unfold maxLen; omega) _ (.agg (V1 g gm)) _ rfl rfl (keyOf_int_mk Try.underlying5 (by decide)) _ [] (RV_1 g gm) ?_; intro x1 o_ g_; have n0_ := Aside0.mk o_; have n1_ := Aside0.mk (HB.out.grown g_ HB.out.size (fun j hj => by cases hj; exact Nat.le_refl _)); clear O HB o_ g_; have O := n0_; have HB := n1_; clear n0_ n1_; have k0 : x1.cell? ⟨gf, 0, none⟩ = some (.pointer (some ⟨g, 0, none⟩)) := (blk_cell (blk_below HFB.out HB.out) 0).trans rfl; have k1 : x1.cell? ⟨gf, 1, none⟩ = some (.pointer (some ⟨gm, 0, none⟩)) := (blk_cell (blk_below HFB.out HB.out) 1).trans rfl) | ((with_reducible refine gate_op (u := .insert 52 (.tmp 26) (.const (.int .u8 5)) (.tmp 41)) rfl ?_); refine ev_insert _ rfl _ _ _ 52 rfl 5 51 lawk Try.underlying52 (RV g gm) w4.heap.size 2 _ rfl O.out (by unfold maxLen; omega) _ (.agg (V5 g gm)) _ rfl rfl (keyOf_int_mk Try.underlying5 (by decide)) _ [] (RV_5 g gm) ?_; intro x2 o_ g_; have n0_ := Aside0.mk o_; have n1_ := Aside0.mk (HB.out.grown g_ HB.out.size (fun j hj => by cases hj; exact Nat.le_refl _)); clear O HB o_ g_; have O := n0_; have HB := n1_; clear n0_ n1_; have k0 : x2.cell? ⟨gf, 0, none⟩ = some (.pointer (some ⟨g, 0, none⟩)) := (blk_cell (blk_below HFB.out HB.out) 0).trans rfl; have k1 : x2.cell? ⟨gf, 1, none⟩ = some (.pointer (some ⟨gm, 0, none⟩)) := (blk_cell (blk_below HFB.out HB.out) 1).trans rfl) | ((with_reducible refine gate_op (u := .insert 52 (.tmp 26) (.const (.int .u8 15)) (.tmp 46)) rfl ?_); refine ev_insert _ rfl _ _ _ 52 rfl 5 51 lawk Try.underlying52 (RV g gm) w4.heap.size 3 _ rfl O.out (by unfold maxLen; omega) _ (.agg (V15 g gm)) _ rfl rfl (keyOf_int_mk Try.underlying5 (by decide)) _ [] (RV_15 g gm) ?_; intro x3 o_ g_; have n0_ := Aside0.mk o_; have n1_ := Aside0.mk (HB.out.grown g_ HB.out.size (fun j hj => by cases hj; exact Nat.le_refl _)); clear O HB o_ g_; have O := n0_; have HB := n1_; clear n0_ n1_; have k0 : x3.cell? ⟨gf, 0, none⟩ = some (.pointer (some ⟨g, 0, none⟩)) := (blk_cell (blk_below HFB.out HB.out) 0).trans rfl; have k1 : x3.cell? ⟨gf, 1, none⟩ = some (.pointer (some ⟨gm, 0, none⟩)) := (blk_cell (blk_below HFB.out HB.out) 1).trans rfl))
  clear k0 k1
  have HKW := Aside0.mk (show (Lit.int .u8 (code)).wf = true from by have := HKB.out; simp [Lit.wf, IntKind.min, IntKind.max, IntKind.signed, IntKind.bits]; omega)
  have lk : (Instr.lookup 52 (.map (some w4.heap.size)) (.int .u8 (code)) true).run Try.prog x3 = .ok (.tuple #[.agg (VZ), .bool false]) x3 := by
    have h := look_p O.out (code) HKW.out
    rw [if_neg (by have := HKN.out; omega), if_neg (by have := HKN.out; omega), if_neg (by have := HKN.out; omega)] at h
    exact h
  have n0_ := Aside0.mk (PS.St.below HP.out HB.out)
  have n1_ := Aside0.mk (blk_below HFB.out HB.out)
  clear HP HFB HB O
  have HP := n0_
  have HFB := n1_
  clear n0_ n1_
  go_upto_region 7 with (first | ((with_reducible refine gate_dst (N := 11) rfl ?_); refine ev_var2 (y := .tmp 52) (cx := VZ) (zc := VZ) 51 (fun W => run_alloc_pair _ _ rfl W) rfl rfl rfl rfl rfl (by kernel_rfl) (by simp [V1, V5, V15, VZ, Value.oneCell']) rfl rfl ?_; intro gv w5 hg_ h1_ hb_; have HVB := Aside0.mk h1_; have n0_ := Aside0.mk (PS.St.below HP.out hb_); have n1_ := Aside0.mk (blk_below HFB.out hb_); clear HP HFB; have HP := n0_; have HFB := n1_; clear n0_ n1_ h1_ hb_ hg_))
  clear lk hmm
  have H := Aside0.mk (PS.St.held HP.out)
  clear HP M NL
  go_wp2_with (first | ((with_reducible refine gate_dst (N := 56) rfl ?_); refine ev_build (zeroC) rfl (by go_simp; first | rfl | done) ?_; intro cx hcx_; have M := Aside0.mk (show ∀ W, IsMsg W cx _ from fun W => by rw [hcx_]; exact zero_is W); clear hcx_) | ((with_reducible refine gate_op (u := .store 30 (.tmp 6) (.tmp 56)) rfl ?_); refine ev_store rfl rfl rfl rfl H.out (i := 0) rfl (rfl) (M.out w0) ?_; intro w99 h3_ h4_; have n0_ := Aside0.mk (h3_); clear H; have H := n0_; clear n0_; clear h3_ h4_))
  refine bodyPost_ret (results_ct rfl _ _ gr 30 _ (0, 0) _ rfl (H.out.at 0 rfl) Try.underlying30 rfl (msg_info ((M.out w0).size))) rfl (⟨_, rfl, M.out _, H.out.b⟩)
theorem parse_0_1 {A : Option Addr} {c : Nat} {l : List Int} {w0 : World} (hr : Kd.C (Kd.int .u8) w0 A l.length l) (hc : l.length ≤ c) (hs : l.length ≤ 1000000) (hb : isBytes l) :
    Calls Try.prog 13 #[.int .i64 0, .int .u8 1, .slice A l.length c] w0 fun en w' => ∃ cx, en = .returned (.tuple #[.agg cx, .int .i64 (parse 0 1 l).2]) ∧ IsMsg w' cx (parse 0 1 l).1 ∧ Below w0.heap.size w0 w' := by
  have HR := Aside0.mk hr
  have HC := Aside0.mk hc
  have HS := Aside0.mk hs
  have HBB := Aside0.mk hb
  clear hr hc hs hb
  have hmm := @run_makeMap Try.prog
  go_enter Try.func13, Try.ntmps13
  go_upto_region 3 with (first | ((with_reducible refine gate_dst (N := 6) rfl ?_); refine ev_alloc rfl rfl ?_; intro gr w1 hg_ h1_ h2_; have HG := Aside0.mk hg_; have H1 := Aside0.mk h1_; have H2 := Aside0.mk h2_; clear hg_ h1_ h2_))
  go_upto_region 4 with (first | ((with_reducible refine gate_dst (N := 22) rfl ?_); refine ev_build ((zeroC.setIfInBounds 0 (.int .u8 (1)))) rfl (by go_simp; first | rfl | done) ?_; intro cx hcx_; have M := Aside0.mk (show ∀ W, IsMsg W cx _ from fun W => by rw [hcx_]; exact (fun W => set_code (zero_is W) (v := 1) (by decide)) W); have NL := Aside0.mk (show NilL cx by rw [hcx_]; exact PS.zero_nil.set (by decide)); clear hcx_) | ((with_reducible refine gate_dst (N := 8) rfl ?_); refine ev_var (y := .tmp 22) rfl rfl rfl rfl rfl (M.out w0) rfl rfl ?_; intro gm w2 hg_ h1_ hb_; have HM1 := Aside0.mk hg_; have HM2 := Aside0.mk h1_; have HM3 := Aside0.mk hb_; clear h1_ hb_ hg_))
  go_upto_region 5 with (first | (go_at_call 20; (with_reducible refine (p_new A c l _ (Kd.C_below HR.out (H2.out.trans (HM3.out.mono H2.out.size))) HC.out HS.out HBB.out).mono ?_); rintro en w3 ⟨g, rfl, q1_, q2_, q3_, q4_⟩; have HP := Aside0.mk (St_first HG.out H1.out H2.out HM1.out HM2.out HM3.out M.out NL.out q1_ q2_ q3_); clear q1_ q2_ q3_ q4_ H1 H2 HG HM1 HM2 HM3) | ((with_reducible refine gate_dst (N := 9) rfl ?_); refine ev_var2 (y := .tmp 25) (cx := #[.pointer (some ⟨g, 0, none⟩), .pointer (some ⟨gm, 0, none⟩)]) (zc := #[.pointer none, .pointer none]) 50 (fun W => run_alloc_form _ _ rfl W) rfl rfl rfl rfl rfl (by kernel_rfl) (by simp [Value.oneCell']) rfl rfl ?_; intro gf w4 hg_ h1_ hb_; have hl_ := PS.Sk.lt (PS.Sk.start HP.out); have HF1 := Aside0.mk (show gf ≠ g from by omega); have HF2 := Aside0.mk (show gf ≠ gm from by omega); have HFB := Aside0.mk h1_; have n0_ := Aside0.mk (PS.St.below HP.out hb_); clear HP; have HP := n0_; clear n0_ h1_ hb_ hg_ hl_))
  have k0 : w4.cell? ⟨gf, 0, none⟩ = some (.pointer (some ⟨g, 0, none⟩)) := (blk_cell HFB.out 0).trans rfl
  have k1 : w4.cell? ⟨gf, 1, none⟩ = some (.pointer (some ⟨gm, 0, none⟩)) := (blk_cell HFB.out 1).trans rfl
  have O : Aside0 ((w4.alloc (.map #[] 0)).ownsMap Try.prog 5 (RV g gm) w4.heap.size 0 D0) := ⟨World.ownsMap_made _ _ _ _⟩
  have HB := Aside0.mk ((Below.refl w4.heap.size w4).alloc (Nat.le_refl _) (.map #[] 0))
  replace k0 : (w4.alloc (.map #[] 0)).cell? ⟨gf, 0, none⟩ = some (.pointer (some ⟨g, 0, none⟩)) := (blk_cell (blk_below HFB.out HB.out) 0).trans rfl
  replace k1 : (w4.alloc (.map #[] 0)).cell? ⟨gf, 1, none⟩ = some (.pointer (some ⟨gm, 0, none⟩)) := (blk_cell (blk_below HFB.out HB.out) 1).trans rfl
  go_upto_region 6 with (first | ((with_reducible refine gate_op (u := .insert 52 (.tmp 26) (.const (.int .u8 1)) (.tmp 31)) rfl ?_); refine ev_insert _ rfl _ _ _ 52 rfl 5 51 lawk Try.underlying52 (RV g gm) w4.heap.size 0 _ rfl O.out (by unfold maxLen; omega) _ (.agg (V1 g gm)) _ rfl rfl (keyOf_int_mk Try.underlying5 (by decide)) _ [] (RV_1 g gm) ?_; intro x0 o_ g_; have n0_ := Aside0.mk o_; have n1_ := Aside0.mk (HB.out.grown g_ HB.out.size (fun j hj => by cases hj; exact Nat.le_refl _)); clear O HB o_ g_; have O := n0_; have HB := n1_; clear n0_ n1_; have k0 : x0.cell? ⟨gf, 0, none⟩ = some (.pointer (some ⟨g, 0, none⟩)) := (blk_cell (blk_below HFB.out HB.out) 0).trans rfl; have k1 : x0.cell? ⟨gf, 1, none⟩ = some (.pointer (some ⟨gm, 0, none⟩)) := (blk_cell (blk_below HFB.out HB.out) 1).trans rfl) | ((with_reducible refine gate_op (u := .insert 52 (.tmp 26) (.const (.int .u8 2)) (.tmp 36)) rfl ?_); refine ev_insert _ rfl _ _ _ 52 rfl 5 51 lawk Try.underlying52 (RV g gm) w4.heap.size 1 _ rfl O.out (by unfold maxLen; omega) _ (.agg (V1 g gm)) _ rfl rfl (keyOf_int_mk Try.underlying5 (by decide)) _ [] (RV_1 g gm) ?_; intro x1 o_ g_; have n0_ := Aside0.mk o_; have n1_ := Aside0.mk (HB.out.grown g_ HB.out.size (fun j hj => by cases hj; exact Nat.le_refl _)); clear O HB o_ g_; have O := n0_; have HB := n1_; clear n0_ n1_; have k0 : x1.cell? ⟨gf, 0, none⟩ = some (.pointer (some ⟨g, 0, none⟩)) := (blk_cell (blk_below HFB.out HB.out) 0).trans rfl; have k1 : x1.cell? ⟨gf, 1, none⟩ = some (.pointer (some ⟨gm, 0, none⟩)) := (blk_cell (blk_below HFB.out HB.out) 1).trans rfl) | ((with_reducible refine gate_op (u := .insert 52 (.tmp 26) (.const (.int .u8 5)) (.tmp 41)) rfl ?_); refine ev_insert _ rfl _ _ _ 52 rfl 5 51 lawk Try.underlying52 (RV g gm) w4.heap.size 2 _ rfl O.out (by unfold maxLen; omega) _ (.agg (V5 g gm)) _ rfl rfl (keyOf_int_mk Try.underlying5 (by decide)) _ [] (RV_5 g gm) ?_; intro x2 o_ g_; have n0_ := Aside0.mk o_; have n1_ := Aside0.mk (HB.out.grown g_ HB.out.size (fun j hj => by cases hj; exact Nat.le_refl _)); clear O HB o_ g_; have O := n0_; have HB := n1_; clear n0_ n1_; have k0 : x2.cell? ⟨gf, 0, none⟩ = some (.pointer (some ⟨g, 0, none⟩)) := (blk_cell (blk_below HFB.out HB.out) 0).trans rfl; have k1 : x2.cell? ⟨gf, 1, none⟩ = some (.pointer (some ⟨gm, 0, none⟩)) := (blk_cell (blk_below HFB.out HB.out) 1).trans rfl) | ((with_reducible refine gate_op (u := .insert 52 (.tmp 26) (.const (.int .u8 15)) (.tmp 46)) rfl ?_); refine ev_insert _ rfl _ _ _ 52 rfl 5 51 lawk Try.underlying52 (RV g gm) w4.heap.size 3 _ rfl O.out (by unfold maxLen; omega) _ (.agg (V15 g gm)) _ rfl rfl (keyOf_int_mk Try.underlying5 (by decide)) _ [] (RV_15 g gm) ?_; intro x3 o_ g_; have n0_ := Aside0.mk o_; have n1_ := Aside0.mk (HB.out.grown g_ HB.out.size (fun j hj => by cases hj; exact Nat.le_refl _)); clear O HB o_ g_; have O := n0_; have HB := n1_; clear n0_ n1_; have k0 : x3.cell? ⟨gf, 0, none⟩ = some (.pointer (some ⟨g, 0, none⟩)) := (blk_cell (blk_below HFB.out HB.out) 0).trans rfl; have k1 : x3.cell? ⟨gf, 1, none⟩ = some (.pointer (some ⟨gm, 0, none⟩)) := (blk_cell (blk_below HFB.out HB.out) 1).trans rfl))
  clear k0 k1
  have HKW := Aside0.mk (show (Lit.int .u8 (1)).wf = true from by decide)
  have lk : (Instr.lookup 52 (.map (some w4.heap.size)) (.int .u8 (1)) true).run Try.prog x3 = .ok (.tuple #[.agg (V1 g gm), .bool true]) x3 := by
    have h := look_p O.out (1) HKW.out
    exact h
  have n0_ := Aside0.mk (PS.St.below HP.out HB.out)
  have n1_ := Aside0.mk (blk_below HFB.out HB.out)
  clear HP HFB HB O
  have HP := n0_
  have HFB := n1_
  clear n0_ n1_
  go_upto_region 7 with (first | ((with_reducible refine gate_dst (N := 11) rfl ?_); refine ev_var2 (y := .tmp 52) (cx := V1 g gm) (zc := VZ) 51 (fun W => run_alloc_pair _ _ rfl W) rfl rfl rfl rfl rfl (by kernel_rfl) (by simp [V1, V5, V15, VZ, Value.oneCell']) rfl rfl ?_; intro gv w5 hg_ h1_ hb_; have HVB := Aside0.mk h1_; have n0_ := Aside0.mk (PS.St.below HP.out hb_); have n1_ := Aside0.mk (blk_below HFB.out hb_); clear HP HFB; have HP := n0_; have HFB := n1_; clear n0_ n1_ h1_ hb_ hg_))
  clear lk hmm
  go_upto_region 9 with (fail)
  have kv : w5.cell? ⟨gv, 0, none⟩ = some (.func (.func 21) #[.agg #[.pointer (some ⟨g, 0, none⟩), .pointer (some ⟨gm, 0, none⟩)]] #[]) := (blk_cell HVB.out 0).trans rfl
  have n0_ := Aside0.mk (PS.Sk.start HP.out)
  clear HP
  have HP := n0_
  clear n0_
  obtain ⟨m0, hm0⟩ : ∃ z, z = ({ zeroM with code := 1 } : Msg) := ⟨_, rfl⟩
  rw [← hm0] at HP
  have HM0 := Aside0.mk hm0
  clear hm0 M NL
  go_upto_region 10 with (first | (go_at_call 21; (with_reducible refine (asksRead_any HP.out).mono ?_); rintro en w6 ⟨rfl, hp_⟩; obtain ⟨cb, e_⟩ : ∃ z, z = spanR 2000 m0 ⟨l, false, 0⟩ := ⟨_, rfl⟩; rw [← e_] at hp_; obtain ⟨c9, m9⟩ := cb; have EB := Aside0.mk e_; clear e_; have n0_ := Aside0.mk hp_; clear HP hp_; have HP := n0_; clear n0_))
  clear kv
  replace HP : Aside0 (PS.Sk w5 w0 gr g gm w6 c9 m9) := HP
  have k0 : w6.cell? ⟨gf, 0, none⟩ = some (.pointer (some ⟨g, 0, none⟩)) := (blk_cell (PS.Sk.blk HP.out HFB.out HF1.out HF2.out) 0).trans rfl
  go_upto_region 11 with (first | (go_at_call 26; (with_reducible refine (PS.Sk.fin HP.out).mono ?_); rintro en x1 ⟨rfl, hp_⟩; obtain ⟨c10, ec_⟩ : ∃ z, z = c9.fin := ⟨_, rfl⟩; rw [← ec_] at hp_; have Ec10 := Aside0.mk ec_; clear ec_; have n0_ := Aside0.mk hp_; clear HP hp_; have HP := n0_; clear n0_))
  clear k0
  have k0 : x1.cell? ⟨gf, 0, none⟩ = some (.pointer (some ⟨g, 0, none⟩)) := (blk_cell (PS.Sk.blk HP.out HFB.out HF1.out HF2.out) 0).trans rfl
  go_upto_region 12 with (first | (go_at_call 27; (with_reducible refine (PS.Sk.err HP.out).mono ?_); rintro en x2 ⟨rfl, hp_⟩; have n0_ := Aside0.mk hp_; clear HP hp_; have HP := n0_; clear n0_))
  clear k0
  have n0_ := Aside0.mk HP.out.st
  clear HP HFB HVB
  have HP := n0_
  clear n0_
  have he1 : parse 0 1 l = if c10.e ≠ 0 then (zeroM, c10.e) else (m9, 0) := by
    have e2 : bodyR 0 1 { zeroM with code := 1 } (cu l) = (c9, m9) := by rw [EB.out, HM0.out]; rfl
    unfold parse
    rw [if_neg (by decide), if_neg (by decide), e2, Ec10.out]
  by_cases h9 : c10.e = 0
  · have ex_ : parse 0 1 l = (m9, 0) := by rw [he1, if_neg (fun h => h h9)]
    have EX := Aside0.mk ex_
    have g1 : (c10.e != 0) = false := by rw [h9]; rfl
    have g2 : (c10.e == 0) = true := by rw [h9]; rfl
    clear h9 ex_ he1
    obtain ⟨cx, h_, hz_, hm_⟩ := PS.St.held2 HP.out
    have H := Aside0.mk h_
    have HZ := Aside0.mk hz_
    have HM := Aside0.mk hm_
    have HB := Aside0.mk HP.out.b
    clear h_ hz_ hm_ HP
    go_wp2_with (first | ((with_reducible refine gate_dst (N := 71) rfl ?_); refine ev_load (x := .tmp 8) rfl rfl rfl H.out (i := 1) rfl (HZ.out) ?_) | ((with_reducible refine gate_op (u := .store 30 (.tmp 6) (.tmp 71)) rfl ?_); refine ev_store rfl rfl rfl rfl H.out (i := 0) rfl rfl (HM.out _ ⟨rfl, rfl, rfl, Kept.refl _ _⟩) ?_; intro x91 h3_ h4_; have HE := Aside0.mk (HM.out _ h4_); clear h4_; have n0_ := Aside0.mk (h3_); clear H; have H := n0_; clear n0_; clear h3_))
    refine bodyPost_ret (results_ct rfl _ _ gr 30 _ (0, 0) _ rfl (H.out.at 0 rfl) Try.underlying30 rfl (msg_info (HZ.out))) rfl (by rw [EX.out]; exact ⟨_, rfl, HE.out, H.out.b⟩)
  · have ex_ : parse 0 1 l = (zeroM, c10.e) := by rw [he1, if_pos h9]
    have EX := Aside0.mk ex_
    have g1 : (c10.e != 0) = true := by simpa using h9
    have g2 : (c10.e == 0) = false := by simpa using h9
    clear h9 ex_ he1
    have H := Aside0.mk (PS.St.held HP.out)
    clear HP
    go_wp2_with (first | ((with_reducible refine gate_dst (N := 69) rfl ?_); refine ev_build (zeroC) rfl (by go_simp; first | rfl | done) ?_; intro cx hcx_; have M := Aside0.mk (show ∀ W, IsMsg W cx _ from fun W => by rw [hcx_]; exact zero_is W); clear hcx_) | ((with_reducible refine gate_op (u := .store 30 (.tmp 6) (.tmp 69)) rfl ?_); refine ev_store rfl rfl rfl rfl H.out (i := 0) rfl (rfl) (M.out w0) ?_; intro x90 h3_ h4_; have n0_ := Aside0.mk (h3_); clear H; have H := n0_; clear n0_; clear h3_ h4_))
    refine bodyPost_ret (results_ct rfl _ _ gr 30 _ (0, 0) _ rfl (H.out.at 0 rfl) Try.underlying30 rfl (msg_info ((M.out w0).size))) rfl (by rw [EX.out]; exact ⟨_, rfl, M.out _, H.out.b⟩)
theorem parse_0_2 {A : Option Addr} {c : Nat} {l : List Int} {w0 : World} (hr : Kd.C (Kd.int .u8) w0 A l.length l) (hc : l.length ≤ c) (hs : l.length ≤ 1000000) (hb : isBytes l) :
    Calls Try.prog 13 #[.int .i64 0, .int .u8 2, .slice A l.length c] w0 fun en w' => ∃ cx, en = .returned (.tuple #[.agg cx, .int .i64 (parse 0 2 l).2]) ∧ IsMsg w' cx (parse 0 2 l).1 ∧ Below w0.heap.size w0 w' := by
  have HR := Aside0.mk hr
  have HC := Aside0.mk hc
  have HS := Aside0.mk hs
  have HBB := Aside0.mk hb
  clear hr hc hs hb
  have hmm := @run_makeMap Try.prog
  go_enter Try.func13, Try.ntmps13
  go_upto_region 3 with (first | ((with_reducible refine gate_dst (N := 6) rfl ?_); refine ev_alloc rfl rfl ?_; intro gr w1 hg_ h1_ h2_; have HG := Aside0.mk hg_; have H1 := Aside0.mk h1_; have H2 := Aside0.mk h2_; clear hg_ h1_ h2_))
  go_upto_region 4 with (first | ((with_reducible refine gate_dst (N := 22) rfl ?_); refine ev_build ((zeroC.setIfInBounds 0 (.int .u8 (2)))) rfl (by go_simp; first | rfl | done) ?_; intro cx hcx_; have M := Aside0.mk (show ∀ W, IsMsg W cx _ from fun W => by rw [hcx_]; exact (fun W => set_code (zero_is W) (v := 2) (by decide)) W); have NL := Aside0.mk (show NilL cx by rw [hcx_]; exact PS.zero_nil.set (by decide)); clear hcx_) | ((with_reducible refine gate_dst (N := 8) rfl ?_); refine ev_var (y := .tmp 22) rfl rfl rfl rfl rfl (M.out w0) rfl rfl ?_; intro gm w2 hg_ h1_ hb_; have HM1 := Aside0.mk hg_; have HM2 := Aside0.mk h1_; have HM3 := Aside0.mk hb_; clear h1_ hb_ hg_))
  go_upto_region 5 with (first | (go_at_call 20; (with_reducible refine (p_new A c l _ (Kd.C_below HR.out (H2.out.trans (HM3.out.mono H2.out.size))) HC.out HS.out HBB.out).mono ?_); rintro en w3 ⟨g, rfl, q1_, q2_, q3_, q4_⟩; have HP := Aside0.mk (St_first HG.out H1.out H2.out HM1.out HM2.out HM3.out M.out NL.out q1_ q2_ q3_); clear q1_ q2_ q3_ q4_ H1 H2 HG HM1 HM2 HM3) | ((with_reducible refine gate_dst (N := 9) rfl ?_); refine ev_var2 (y := .tmp 25) (cx := #[.pointer (some ⟨g, 0, none⟩), .pointer (some ⟨gm, 0, none⟩)]) (zc := #[.pointer none, .pointer none]) 50 (fun W => run_alloc_form _ _ rfl W) rfl rfl rfl rfl rfl (by kernel_rfl) (by simp [Value.oneCell']) rfl rfl ?_; intro gf w4 hg_ h1_ hb_; have hl_ := PS.Sk.lt (PS.Sk.start HP.out); have HF1 := Aside0.mk (show gf ≠ g from by omega); have HF2 := Aside0.mk (show gf ≠ gm from by omega); have HFB := Aside0.mk h1_; have n0_ := Aside0.mk (PS.St.below HP.out hb_); clear HP; have HP := n0_; clear n0_ h1_ hb_ hg_ hl_))
  have k0 : w4.cell? ⟨gf, 0, none⟩ = some (.pointer (some ⟨g, 0, none⟩)) := (blk_cell HFB.out 0).trans rfl
  have k1 : w4.cell? ⟨gf, 1, none⟩ = some (.pointer (some ⟨gm, 0, none⟩)) := (blk_cell HFB.out 1).trans rfl
  have O : Aside0 ((w4.alloc (.map #[] 0)).ownsMap Try.prog 5 (RV g gm) w4.heap.size 0 D0) := ⟨World.ownsMap_made _ _ _ _⟩
  have HB := Aside0.mk ((Below.refl w4.heap.size w4).alloc (Nat.le_refl _) (.map #[] 0))
  replace k0 : (w4.alloc (.map #[] 0)).cell? ⟨gf, 0, none⟩ = some (.pointer (some ⟨g, 0, none⟩)) := (blk_cell (blk_below HFB.out HB.out) 0).trans rfl
  replace k1 : (w4.alloc (.map #[] 0)).cell? ⟨gf, 1, none⟩ = some (.pointer (some ⟨gm, 0, none⟩)) := (blk_cell (blk_below HFB.out HB.out) 1).trans rfl
  go_upto_region 6 with (first | ((with_reducible refine gate_op (u := .insert 52 (.tmp 26) (.const (.int .u8 1)) (.tmp 31)) rfl ?_); refine ev_insert _ rfl _ _ _ 52 rfl 5 51 lawk Try.underlying52 (RV g gm) w4.heap.size 0 _ rfl O.out (by unfold maxLen; omega) _ (.agg (V1 g gm)) _ rfl rfl (keyOf_int_mk Try.underlying5 (by decide)) _ [] (RV_1 g gm) ?_; intro x0 o_ g_; have n0_ := Aside0.mk o_; have n1_ := Aside0.mk (HB.out.grown g_ HB.out.size (fun j hj => by cases hj; exact Nat.le_refl _)); clear O HB o_ g_; have O := n0_; have HB := n1_; clear n0_ n1_; have k0 : x0.cell? ⟨gf, 0, none⟩ = some (.pointer (some ⟨g, 0, none⟩)) := (blk_cell (blk_below HFB.out HB.out) 0).trans rfl; have k1 : x0.cell? ⟨gf, 1, none⟩ = some (.pointer (some ⟨gm, 0, none⟩)) := (blk_cell (blk_below HFB.out HB.out) 1).trans rfl) | ((with_reducible refine gate_op (u := .insert 52 (.tmp 26) (.const (.int .u8 2)) (.tmp 36)) rfl ?_); refine ev_insert _ rfl _ _ _ 52 rfl 5 51 lawk Try.underlying52 (RV g gm) w4.heap.size 1 _ rfl O.out (by unfold maxLen; omega) _ (.agg (V1 g gm)) _ rfl rfl (keyOf_int_mk Try.underlying5 (by decide)) _ [] (RV_1 g gm) ?_; intro x1 o_ g_; have n0_ := Aside0.mk o_; have n1_ := Aside0.mk (HB.out.grown g_ HB.out.size (fun j hj => by cases hj; exact Nat.le_refl _)); clear O HB o_ g_; have O := n0_; have HB := n1_; clear n0_ n1_; have k0 : x1.cell? ⟨gf, 0, none⟩ = some (.pointer (some ⟨g, 0, none⟩)) := (blk_cell (blk_below HFB.out HB.out) 0).trans rfl; have k1 : x1.cell? ⟨gf, 1, none⟩ = some (.pointer (some ⟨gm, 0, none⟩)) := (blk_cell (blk_below HFB.out HB.out) 1).trans rfl) | ((with_reducible refine gate_op (u := .insert 52 (.tmp 26) (.const (.int .u8 5)) (.tmp 41)) rfl ?_); refine ev_insert _ rfl _ _ _ 52 rfl 5 51 lawk Try.underlying52 (RV g gm) w4.heap.size 2 _ rfl O.out (by unfold maxLen; omega) _ (.agg (V5 g gm)) _ rfl rfl (keyOf_int_mk Try.underlying5 (by decide)) _ [] (RV_5 g gm) ?_; intro x2 o_ g_; have n0_ := Aside0.mk o_; have n1_ := Aside0.mk (HB.out.grown g_ HB.out.size (fun j hj => by cases hj; exact Nat.le_refl _)); clear O HB o_ g_; have O := n0_; have HB := n1_; clear n0_ n1_; have k0 : x2.cell? ⟨gf, 0, none⟩ = some (.pointer (some ⟨g, 0, none⟩)) := (blk_cell (blk_below HFB.out HB.out) 0).trans rfl; have k1 : x2.cell? ⟨gf, 1, none⟩ = some (.pointer (some ⟨gm, 0, none⟩)) := (blk_cell (blk_below HFB.out HB.out) 1).trans rfl) | ((with_reducible refine gate_op (u := .insert 52 (.tmp 26) (.const (.int .u8 15)) (.tmp 46)) rfl ?_); refine ev_insert _ rfl _ _ _ 52 rfl 5 51 lawk Try.underlying52 (RV g gm) w4.heap.size 3 _ rfl O.out (by unfold maxLen; omega) _ (.agg (V15 g gm)) _ rfl rfl (keyOf_int_mk Try.underlying5 (by decide)) _ [] (RV_15 g gm) ?_; intro x3 o_ g_; have n0_ := Aside0.mk o_; have n1_ := Aside0.mk (HB.out.grown g_ HB.out.size (fun j hj => by cases hj; exact Nat.le_refl _)); clear O HB o_ g_; have O := n0_; have HB := n1_; clear n0_ n1_; have k0 : x3.cell? ⟨gf, 0, none⟩ = some (.pointer (some ⟨g, 0, none⟩)) := (blk_cell (blk_below HFB.out HB.out) 0).trans rfl; have k1 : x3.cell? ⟨gf, 1, none⟩ = some (.pointer (some ⟨gm, 0, none⟩)) := (blk_cell (blk_below HFB.out HB.out) 1).trans rfl))
  clear k0 k1
  have HKW := Aside0.mk (show (Lit.int .u8 (2)).wf = true from by decide)
  have lk : (Instr.lookup 52 (.map (some w4.heap.size)) (.int .u8 (2)) true).run Try.prog x3 = .ok (.tuple #[.agg (V1 g gm), .bool true]) x3 := by
    have h := look_p O.out (2) HKW.out
    exact h
  have n0_ := Aside0.mk (PS.St.below HP.out HB.out)
  have n1_ := Aside0.mk (blk_below HFB.out HB.out)
  clear HP HFB HB O
  have HP := n0_
  have HFB := n1_
  clear n0_ n1_
  go_upto_region 7 with (first | ((with_reducible refine gate_dst (N := 11) rfl ?_); refine ev_var2 (y := .tmp 52) (cx := V1 g gm) (zc := VZ) 51 (fun W => run_alloc_pair _ _ rfl W) rfl rfl rfl rfl rfl (by kernel_rfl) (by simp [V1, V5, V15, VZ, Value.oneCell']) rfl rfl ?_; intro gv w5 hg_ h1_ hb_; have HVB := Aside0.mk h1_; have n0_ := Aside0.mk (PS.St.below HP.out hb_); have n1_ := Aside0.mk (blk_below HFB.out hb_); clear HP HFB; have HP := n0_; have HFB := n1_; clear n0_ n1_ h1_ hb_ hg_))
  clear lk hmm
  go_upto_region 9 with (fail)
  have kv : w5.cell? ⟨gv, 0, none⟩ = some (.func (.func 21) #[.agg #[.pointer (some ⟨g, 0, none⟩), .pointer (some ⟨gm, 0, none⟩)]] #[]) := (blk_cell HVB.out 0).trans rfl
  have n0_ := Aside0.mk (PS.Sk.start HP.out)
  clear HP
  have HP := n0_
  clear n0_
  obtain ⟨m0, hm0⟩ : ∃ z, z = ({ zeroM with code := 2 } : Msg) := ⟨_, rfl⟩
  rw [← hm0] at HP
  have HM0 := Aside0.mk hm0
  clear hm0 M NL
  go_upto_region 10 with (first | (go_at_call 21; (with_reducible refine (asksRead_any HP.out).mono ?_); rintro en w6 ⟨rfl, hp_⟩; obtain ⟨cb, e_⟩ : ∃ z, z = spanR 2000 m0 ⟨l, false, 0⟩ := ⟨_, rfl⟩; rw [← e_] at hp_; obtain ⟨c9, m9⟩ := cb; have EB := Aside0.mk e_; clear e_; have n0_ := Aside0.mk hp_; clear HP hp_; have HP := n0_; clear n0_))
  clear kv
  replace HP : Aside0 (PS.Sk w5 w0 gr g gm w6 c9 m9) := HP
  have k0 : w6.cell? ⟨gf, 0, none⟩ = some (.pointer (some ⟨g, 0, none⟩)) := (blk_cell (PS.Sk.blk HP.out HFB.out HF1.out HF2.out) 0).trans rfl
  go_upto_region 11 with (first | (go_at_call 26; (with_reducible refine (PS.Sk.fin HP.out).mono ?_); rintro en x1 ⟨rfl, hp_⟩; obtain ⟨c10, ec_⟩ : ∃ z, z = c9.fin := ⟨_, rfl⟩; rw [← ec_] at hp_; have Ec10 := Aside0.mk ec_; clear ec_; have n0_ := Aside0.mk hp_; clear HP hp_; have HP := n0_; clear n0_))
  clear k0
  have k0 : x1.cell? ⟨gf, 0, none⟩ = some (.pointer (some ⟨g, 0, none⟩)) := (blk_cell (PS.Sk.blk HP.out HFB.out HF1.out HF2.out) 0).trans rfl
  go_upto_region 12 with (first | (go_at_call 27; (with_reducible refine (PS.Sk.err HP.out).mono ?_); rintro en x2 ⟨rfl, hp_⟩; have n0_ := Aside0.mk hp_; clear HP hp_; have HP := n0_; clear n0_))
  clear k0
  have n0_ := Aside0.mk HP.out.st
  clear HP HFB HVB
  have HP := n0_
  clear n0_
  have he1 : parse 0 2 l = if c10.e ≠ 0 then (zeroM, c10.e) else (m9, 0) := by
    have e2 : bodyR 0 2 { zeroM with code := 2 } (cu l) = (c9, m9) := by rw [EB.out, HM0.out]; rfl
    unfold parse
    rw [if_neg (by decide), if_neg (by decide), e2, Ec10.out]
  by_cases h9 : c10.e = 0
  · have ex_ : parse 0 2 l = (m9, 0) := by rw [he1, if_neg (fun h => h h9)]
    have EX := Aside0.mk ex_
    have g1 : (c10.e != 0) = false := by rw [h9]; rfl
    have g2 : (c10.e == 0) = true := by rw [h9]; rfl
    clear h9 ex_ he1
    obtain ⟨cx, h_, hz_, hm_⟩ := PS.St.held2 HP.out
    have H := Aside0.mk h_
    have HZ := Aside0.mk hz_
    have HM := Aside0.mk hm_
    have HB := Aside0.mk HP.out.b
    clear h_ hz_ hm_ HP
    go_wp2_with (first | ((with_reducible refine gate_dst (N := 71) rfl ?_); refine ev_load (x := .tmp 8) rfl rfl rfl H.out (i := 1) rfl (HZ.out) ?_) | ((with_reducible refine gate_op (u := .store 30 (.tmp 6) (.tmp 71)) rfl ?_); refine ev_store rfl rfl rfl rfl H.out (i := 0) rfl rfl (HM.out _ ⟨rfl, rfl, rfl, Kept.refl _ _⟩) ?_; intro x91 h3_ h4_; have HE := Aside0.mk (HM.out _ h4_); clear h4_; have n0_ := Aside0.mk (h3_); clear H; have H := n0_; clear n0_; clear h3_))
    refine bodyPost_ret (results_ct rfl _ _ gr 30 _ (0, 0) _ rfl (H.out.at 0 rfl) Try.underlying30 rfl (msg_info (HZ.out))) rfl (by rw [EX.out]; exact ⟨_, rfl, HE.out, H.out.b⟩)
  · have ex_ : parse 0 2 l = (zeroM, c10.e) := by rw [he1, if_pos h9]
    have EX := Aside0.mk ex_
    have g1 : (c10.e != 0) = true := by simpa using h9
    have g2 : (c10.e == 0) = false := by simpa using h9
    clear h9 ex_ he1
    have H := Aside0.mk (PS.St.held HP.out)
    clear HP
    go_wp2_with (first | ((with_reducible refine gate_dst (N := 69) rfl ?_); refine ev_build (zeroC) rfl (by go_simp; first | rfl | done) ?_; intro cx hcx_; have M := Aside0.mk (show ∀ W, IsMsg W cx _ from fun W => by rw [hcx_]; exact zero_is W); clear hcx_) | ((with_reducible refine gate_op (u := .store 30 (.tmp 6) (.tmp 69)) rfl ?_); refine ev_store rfl rfl rfl rfl H.out (i := 0) rfl (rfl) (M.out w0) ?_; intro x90 h3_ h4_; have n0_ := Aside0.mk (h3_); clear H; have H := n0_; clear n0_; clear h3_ h4_))
    refine bodyPost_ret (results_ct rfl _ _ gr 30 _ (0, 0) _ rfl (H.out.at 0 rfl) Try.underlying30 rfl (msg_info ((M.out w0).size))) rfl (by rw [EX.out]; exact ⟨_, rfl, M.out _, H.out.b⟩)
theorem parse_0_5 {A : Option Addr} {c : Nat} {l : List Int} {w0 : World} (hr : Kd.C (Kd.int .u8) w0 A l.length l) (hc : l.length ≤ c) (hs : l.length ≤ 1000000) (hb : isBytes l) :
    Calls Try.prog 13 #[.int .i64 0, .int .u8 5, .slice A l.length c] w0 fun en w' => ∃ cx, en = .returned (.tuple #[.agg cx, .int .i64 (parse 0 5 l).2]) ∧ IsMsg w' cx (parse 0 5 l).1 ∧ Below w0.heap.size w0 w' := by
  have HR := Aside0.mk hr
  have HC := Aside0.mk hc
  have HS := Aside0.mk hs
  have HBB := Aside0.mk hb
  clear hr hc hs hb
  have hmm := @run_makeMap Try.prog
  go_enter Try.func13, Try.ntmps13
  go_upto_region 3 with (first | ((with_reducible refine gate_dst (N := 6) rfl ?_); refine ev_alloc rfl rfl ?_; intro gr w1 hg_ h1_ h2_; have HG := Aside0.mk hg_; have H1 := Aside0.mk h1_; have H2 := Aside0.mk h2_; clear hg_ h1_ h2_))
  go_upto_region 4 with (first | ((with_reducible refine gate_dst (N := 22) rfl ?_); refine ev_build ((zeroC.setIfInBounds 0 (.int .u8 (5)))) rfl (by go_simp; first | rfl | done) ?_; intro cx hcx_; have M := Aside0.mk (show ∀ W, IsMsg W cx _ from fun W => by rw [hcx_]; exact (fun W => set_code (zero_is W) (v := 5) (by decide)) W); have NL := Aside0.mk (show NilL cx by rw [hcx_]; exact PS.zero_nil.set (by decide)); clear hcx_) | ((with_reducible refine gate_dst (N := 8) rfl ?_); refine ev_var (y := .tmp 22) rfl rfl rfl rfl rfl (M.out w0) rfl rfl ?_; intro gm w2 hg_ h1_ hb_; have HM1 := Aside0.mk hg_; have HM2 := Aside0.mk h1_; have HM3 := Aside0.mk hb_; clear h1_ hb_ hg_))
  go_upto_region 5 with (first | (go_at_call 20; (with_reducible refine (p_new A c l _ (Kd.C_below HR.out (H2.out.trans (HM3.out.mono H2.out.size))) HC.out HS.out HBB.out).mono ?_); rintro en w3 ⟨g, rfl, q1_, q2_, q3_, q4_⟩; have HP := Aside0.mk (St_first HG.out H1.out H2.out HM1.out HM2.out HM3.out M.out NL.out q1_ q2_ q3_); clear q1_ q2_ q3_ q4_ H1 H2 HG HM1 HM2 HM3) | ((with_reducible refine gate_dst (N := 9) rfl ?_); refine ev_var2 (y := .tmp 25) (cx := #[.pointer (some ⟨g, 0, none⟩), .pointer (some ⟨gm, 0, none⟩)]) (zc := #[.pointer none, .pointer none]) 50 (fun W => run_alloc_form _ _ rfl W) rfl rfl rfl rfl rfl (by kernel_rfl) (by simp [Value.oneCell']) rfl rfl ?_; intro gf w4 hg_ h1_ hb_; have hl_ := PS.Sk.lt (PS.Sk.start HP.out); have HF1 := Aside0.mk (show gf ≠ g from by omega); have HF2 := Aside0.mk (show gf ≠ gm from by omega); have HFB := Aside0.mk h1_; have n0_ := Aside0.mk (PS.St.below HP.out hb_); clear HP; have HP := n0_; clear n0_ h1_ hb_ hg_ hl_))
  have k0 : w4.cell? ⟨gf, 0, none⟩ = some (.pointer (some ⟨g, 0, none⟩)) := (blk_cell HFB.out 0).trans rfl
  have k1 : w4.cell? ⟨gf, 1, none⟩ = some (.pointer (some ⟨gm, 0, none⟩)) := (blk_cell HFB.out 1).trans rfl
  have O : Aside0 ((w4.alloc (.map #[] 0)).ownsMap Try.prog 5 (RV g gm) w4.heap.size 0 D0) := ⟨World.ownsMap_made _ _ _ _⟩
  have HB := Aside0.mk ((Below.refl w4.heap.size w4).alloc (Nat.le_refl _) (.map #[] 0))
  replace k0 : (w4.alloc (.map #[] 0)).cell? ⟨gf, 0, none⟩ = some (.pointer (some ⟨g, 0, none⟩)) := (blk_cell (blk_below HFB.out HB.out) 0).trans rfl
  replace k1 : (w4.alloc (.map #[] 0)).cell? ⟨gf, 1, none⟩ = some (.pointer (some ⟨gm, 0, none⟩)) := (blk_cell (blk_below HFB.out HB.out) 1).trans rfl
  go_upto_region 6 with (first | ((with_reducible refine gate_op (u := .insert 52 (.tmp 26) (.const (.int .u8 1)) (.tmp 31)) rfl ?_); refine ev_insert _ rfl _ _ _ 52 rfl 5 51 lawk Try.underlying52 (RV g gm) w4.heap.size 0 _ rfl O.out (by unfold maxLen; omega) _ (.agg (V1 g gm)) _ rfl rfl (keyOf_int_mk Try.underlying5 (by decide)) _ [] (RV_1 g gm) ?_; intro x0 o_ g_; have n0_ := Aside0.mk o_; have n1_ := Aside0.mk (HB.out.grown g_ HB.out.size (fun j hj => by cases hj; exact Nat.le_refl _)); clear O HB o_ g_; have O := n0_; have HB := n1_; clear n0_ n1_; have k0 : x0.cell? ⟨gf, 0, none⟩ = some (.pointer (some ⟨g, 0, none⟩)) := (blk_cell (blk_below HFB.out HB.out) 0).trans rfl; have k1 : x0.cell? ⟨gf, 1, none⟩ = some (.pointer (some ⟨gm, 0, none⟩)) := (blk_cell (blk_below HFB.out HB.out) 1).trans rfl) | ((with_reducible refine gate_op (u := .insert 52 (.tmp 26) (.const (.int .u8 2)) (.tmp 36)) rfl ?_); refine ev_insert _ rfl _ _ _ 52 rfl 5 51 lawk Try.underlying52 (RV g gm) w4.heap.size 1 _ rfl O.out (by unfold maxLen; omega) _ (.agg (V1 g gm)) _ rfl rfl (keyOf_int_mk Try.underlying5 (by decide)) _ [] (RV_1 g gm) ?_; intro x1 o_ g_; have n0_ := Aside0.mk o_; have n1_ := Aside0.mk (HB.out.grown g_ HB.out.size (fun j hj => by cases hj; exact Nat.le_refl _)); clear O HB o_ g_; have O := n0_; have HB := n1_; clear n0_ n1_; have k0 : x1.cell? ⟨gf, 0, none⟩ = some (.pointer (some ⟨g, 0, none⟩)) := (blk_cell (blk_below HFB.out HB.out) 0).trans rfl; have k1 : x1.cell? ⟨gf, 1, none⟩ = some (.pointer (some ⟨gm, 0, none⟩)) := (blk_cell (blk_below HFB.out HB.out) 1).trans rfl) | ((with_reducible refine gate_op (u := .insert 52 (.tmp 26) (.const (.int .u8 5)) (.tmp 41)) rfl ?_); refine ev_insert _ rfl _ _ _ 52 rfl 5 51 lawk Try.underlying52 (RV g gm) w4.heap.size 2 _ rfl O.out (by unfold maxLen; omega) _ (.agg (V5 g gm)) _ rfl rfl (keyOf_int_mk Try.underlying5 (by decide)) _ [] (RV_5 g gm) ?_; intro x2 o_ g_; have n0_ := Aside0.mk o_; have n1_ := Aside0.mk (HB.out.grown g_ HB.out.size (fun j hj => by cases hj; exact Nat.le_refl _)); clear O HB o_ g_; have O := n0_; have HB := n1_; clear n0_ n1_; have k0 : x2.cell? ⟨gf, 0, none⟩ = some (.pointer (some ⟨g, 0, none⟩)) := (blk_cell (blk_below HFB.out HB.out) 0).trans rfl; have k1 : x2.cell? ⟨gf, 1, none⟩ = some (.pointer (some ⟨gm, 0, none⟩)) := (blk_cell (blk_below HFB.out HB.out) 1).trans rfl) | ((with_reducible refine gate_op (u := .insert 52 (.tmp 26) (.const (.int .u8 15)) (.tmp 46)) rfl ?_); refine ev_insert _ rfl _ _ _ 52 rfl 5 51 lawk Try.underlying52 (RV g gm) w4.heap.size 3 _ rfl O.out (by unfold maxLen; omega) _ (.agg (V15 g gm)) _ rfl rfl (keyOf_int_mk Try.underlying5 (by decide)) _ [] (RV_15 g gm) ?_; intro x3 o_ g_; have n0_ := Aside0.mk o_; have n1_ := Aside0.mk (HB.out.grown g_ HB.out.size (fun j hj => by cases hj; exact Nat.le_refl _)); clear O HB o_ g_; have O := n0_; have HB := n1_; clear n0_ n1_; have k0 : x3.cell? ⟨gf, 0, none⟩ = some (.pointer (some ⟨g, 0, none⟩)) := (blk_cell (blk_below HFB.out HB.out) 0).trans rfl; have k1 : x3.cell? ⟨gf, 1, none⟩ = some (.pointer (some ⟨gm, 0, none⟩)) := (blk_cell (blk_below HFB.out HB.out) 1).trans rfl))
  clear k0 k1
  have HKW := Aside0.mk (show (Lit.int .u8 (5)).wf = true from by decide)
  have lk : (Instr.lookup 52 (.map (some w4.heap.size)) (.int .u8 (5)) true).run Try.prog x3 = .ok (.tuple #[.agg (V5 g gm), .bool true]) x3 := by
    have h := look_p O.out (5) HKW.out
    exact h
  have n0_ := Aside0.mk (PS.St.below HP.out HB.out)
  have n1_ := Aside0.mk (blk_below HFB.out HB.out)
  clear HP HFB HB O
  have HP := n0_
  have HFB := n1_
  clear n0_ n1_
  go_upto_region 7 with (first | ((with_reducible refine gate_dst (N := 11) rfl ?_); refine ev_var2 (y := .tmp 52) (cx := V5 g gm) (zc := VZ) 51 (fun W => run_alloc_pair _ _ rfl W) rfl rfl rfl rfl rfl (by kernel_rfl) (by simp [V1, V5, V15, VZ, Value.oneCell']) rfl rfl ?_; intro gv w5 hg_ h1_ hb_; have HVB := Aside0.mk h1_; have n0_ := Aside0.mk (PS.St.below HP.out hb_); have n1_ := Aside0.mk (blk_below HFB.out hb_); clear HP HFB; have HP := n0_; have HFB := n1_; clear n0_ n1_ h1_ hb_ hg_))
  clear lk hmm
  go_upto_region 9 with (fail)
  have kv : w5.cell? ⟨gv, 0, none⟩ = some (.func (.func 23) #[.agg #[.pointer (some ⟨g, 0, none⟩), .pointer (some ⟨gm, 0, none⟩)]] #[]) := (blk_cell HVB.out 0).trans rfl
  have n0_ := Aside0.mk (PS.Sk.start HP.out)
  clear HP
  have HP := n0_
  clear n0_
  obtain ⟨m0, hm0⟩ : ∃ z, z = ({ zeroM with code := 5 } : Msg) := ⟨_, rfl⟩
  rw [← hm0] at HP
  have HM0 := Aside0.mk hm0
  clear hm0 M NL
  go_upto_region 10 with (first | (go_at_call 23; (with_reducible refine (sets_any HP.out).mono ?_); rintro en w6 ⟨rfl, hp_⟩; obtain ⟨cb, e_⟩ : ∃ z, z = setsR m0 ⟨l, false, 0⟩ := ⟨_, rfl⟩; rw [← e_] at hp_; obtain ⟨c9, m9⟩ := cb; have EB := Aside0.mk e_; clear e_; have n0_ := Aside0.mk hp_; clear HP hp_; have HP := n0_; clear n0_))
  clear kv
  replace HP : Aside0 (PS.Sk w5 w0 gr g gm w6 c9 m9) := HP
  have k0 : w6.cell? ⟨gf, 0, none⟩ = some (.pointer (some ⟨g, 0, none⟩)) := (blk_cell (PS.Sk.blk HP.out HFB.out HF1.out HF2.out) 0).trans rfl
  go_upto_region 11 with (first | (go_at_call 26; (with_reducible refine (PS.Sk.fin HP.out).mono ?_); rintro en x1 ⟨rfl, hp_⟩; obtain ⟨c10, ec_⟩ : ∃ z, z = c9.fin := ⟨_, rfl⟩; rw [← ec_] at hp_; have Ec10 := Aside0.mk ec_; clear ec_; have n0_ := Aside0.mk hp_; clear HP hp_; have HP := n0_; clear n0_))
  clear k0
  have k0 : x1.cell? ⟨gf, 0, none⟩ = some (.pointer (some ⟨g, 0, none⟩)) := (blk_cell (PS.Sk.blk HP.out HFB.out HF1.out HF2.out) 0).trans rfl
  go_upto_region 12 with (first | (go_at_call 27; (with_reducible refine (PS.Sk.err HP.out).mono ?_); rintro en x2 ⟨rfl, hp_⟩; have n0_ := Aside0.mk hp_; clear HP hp_; have HP := n0_; clear n0_))
  clear k0
  have n0_ := Aside0.mk HP.out.st
  clear HP HFB HVB
  have HP := n0_
  clear n0_
  have he1 : parse 0 5 l = if c10.e ≠ 0 then (zeroM, c10.e) else (m9, 0) := by
    have e2 : bodyR 0 5 { zeroM with code := 5 } (cu l) = (c9, m9) := by rw [EB.out, HM0.out]; rfl
    unfold parse
    rw [if_neg (by decide), if_neg (by decide), e2, Ec10.out]
  by_cases h9 : c10.e = 0
  · have ex_ : parse 0 5 l = (m9, 0) := by rw [he1, if_neg (fun h => h h9)]
    have EX := Aside0.mk ex_
    have g1 : (c10.e != 0) = false := by rw [h9]; rfl
    have g2 : (c10.e == 0) = true := by rw [h9]; rfl
    clear h9 ex_ he1
    obtain ⟨cx, h_, hz_, hm_⟩ := PS.St.held2 HP.out
    have H := Aside0.mk h_
    have HZ := Aside0.mk hz_
    have HM := Aside0.mk hm_
    have HB := Aside0.mk HP.out.b
    clear h_ hz_ hm_ HP
    go_wp2_with (first | ((with_reducible refine gate_dst (N := 71) rfl ?_); refine ev_load (x := .tmp 8) rfl rfl rfl H.out (i := 1) rfl (HZ.out) ?_) | ((with_reducible refine gate_op (u := .store 30 (.tmp 6) (.tmp 71)) rfl ?_); refine ev_store rfl rfl rfl rfl H.out (i := 0) rfl rfl (HM.out _ ⟨rfl, rfl, rfl, Kept.refl _ _⟩) ?_; intro x91 h3_ h4_; have HE := Aside0.mk (HM.out _ h4_); clear h4_; have n0_ := Aside0.mk (h3_); clear H; have H := n0_; clear n0_; clear h3_))
    refine bodyPost_ret (results_ct rfl _ _ gr 30 _ (0, 0) _ rfl (H.out.at 0 rfl) Try.underlying30 rfl (msg_info (HZ.out))) rfl (by rw [EX.out]; exact ⟨_, rfl, HE.out, H.out.b⟩)
  · have ex_ : parse 0 5 l = (zeroM, c10.e) := by rw [he1, if_pos h9]
    have EX := Aside0.mk ex_
    have g1 : (c10.e != 0) = true := by simpa using h9
    have g2 : (c10.e == 0) = false := by simpa using h9
    clear h9 ex_ he1
    have H := Aside0.mk (PS.St.held HP.out)
    clear HP
    go_wp2_with (first | ((with_reducible refine gate_dst (N := 69) rfl ?_); refine ev_build (zeroC) rfl (by go_simp; first | rfl | done) ?_; intro cx hcx_; have M := Aside0.mk (show ∀ W, IsMsg W cx _ from fun W => by rw [hcx_]; exact zero_is W); clear hcx_) | ((with_reducible refine gate_op (u := .store 30 (.tmp 6) (.tmp 69)) rfl ?_); refine ev_store rfl rfl rfl rfl H.out (i := 0) rfl (rfl) (M.out w0) ?_; intro x90 h3_ h4_; have n0_ := Aside0.mk (h3_); clear H; have H := n0_; clear n0_; clear h3_ h4_))
    refine bodyPost_ret (results_ct rfl _ _ gr 30 _ (0, 0) _ rfl (H.out.at 0 rfl) Try.underlying30 rfl (msg_info ((M.out w0).size))) rfl (by rw [EX.out]; exact ⟨_, rfl, M.out _, H.out.b⟩)
theorem parse_0_15 {A : Option Addr} {c : Nat} {l : List Int} {w0 : World} (hr : Kd.C (Kd.int .u8) w0 A l.length l) (hc : l.length ≤ c) (hs : l.length ≤ 1000000) (hb : isBytes l) :
    Calls Try.prog 13 #[.int .i64 0, .int .u8 15, .slice A l.length c] w0 fun en w' => ∃ cx, en = .returned (.tuple #[.agg cx, .int .i64 (parse 0 15 l).2]) ∧ IsMsg w' cx (parse 0 15 l).1 ∧ Below w0.heap.size w0 w' := by
  have HR := Aside0.mk hr
  have HC := Aside0.mk hc
  have HS := Aside0.mk hs
  have HBB := Aside0.mk hb
  clear hr hc hs hb
  have hmm := @run_makeMap Try.prog
  go_enter Try.func13, Try.ntmps13
  go_upto_region 3 with (first | ((with_reducible refine gate_dst (N := 6) rfl ?_); refine ev_alloc rfl rfl ?_; intro gr w1 hg_ h1_ h2_; have HG := Aside0.mk hg_; have H1 := Aside0.mk h1_; have H2 := Aside0.mk h2_; clear hg_ h1_ h2_))
  go_upto_region 4 with (first | ((with_reducible refine gate_dst (N := 22) rfl ?_); refine ev_build ((zeroC.setIfInBounds 0 (.int .u8 (15)))) rfl (by go_simp; first | rfl | done) ?_; intro cx hcx_; have M := Aside0.mk (show ∀ W, IsMsg W cx _ from fun W => by rw [hcx_]; exact (fun W => set_code (zero_is W) (v := 15) (by decide)) W); have NL := Aside0.mk (show NilL cx by rw [hcx_]; exact PS.zero_nil.set (by decide)); clear hcx_) | ((with_reducible refine gate_dst (N := 8) rfl ?_); refine ev_var (y := .tmp 22) rfl rfl rfl rfl rfl (M.out w0) rfl rfl ?_; intro gm w2 hg_ h1_ hb_; have HM1 := Aside0.mk hg_; have HM2 := Aside0.mk h1_; have HM3 := Aside0.mk hb_; clear h1_ hb_ hg_))
  go_upto_region 5 with (first | (go_at_call 20; (with_reducible refine (p_new A c l _ (Kd.C_below HR.out (H2.out.trans (HM3.out.mono H2.out.size))) HC.out HS.out HBB.out).mono ?_); rintro en w3 ⟨g, rfl, q1_, q2_, q3_, q4_⟩; have HP := Aside0.mk (St_first HG.out H1.out H2.out HM1.out HM2.out HM3.out M.out NL.out q1_ q2_ q3_); clear q1_ q2_ q3_ q4_ H1 H2 HG HM1 HM2 HM3) | ((with_reducible refine gate_dst (N := 9) rfl ?_); refine ev_var2 (y := .tmp 25) (cx := #[.pointer (some ⟨g, 0, none⟩), .pointer (some ⟨gm, 0, none⟩)]) (zc := #[.pointer none, .pointer none]) 50 (fun W => run_alloc_form _ _ rfl W) rfl rfl rfl rfl rfl (by kernel_rfl) (by simp [Value.oneCell']) rfl rfl ?_; intro gf w4 hg_ h1_ hb_; have hl_ := PS.Sk.lt (PS.Sk.start HP.out); have HF1 := Aside0.mk (show gf ≠ g from by omega); have HF2 := Aside0.mk (show gf ≠ gm from by omega); have HFB := Aside0.mk h1_; have n0_ := Aside0.mk (PS.St.below HP.out hb_); clear HP; have HP := n0_; clear n0_ h1_ hb_ hg_ hl_))
  have k0 : w4.cell? ⟨gf, 0, none⟩ = some (.pointer (some ⟨g, 0, none⟩)) := (blk_cell HFB.out 0).trans rfl
  have k1 : w4.cell? ⟨gf, 1, none⟩ = some (.pointer (some ⟨gm, 0, none⟩)) := (blk_cell HFB.out 1).trans rfl
  have O : Aside0 ((w4.alloc (.map #[] 0)).ownsMap Try.prog 5 (RV g gm) w4.heap.size 0 D0) := ⟨World.ownsMap_made _ _ _ _⟩
  have HB := Aside0.mk ((Below.refl w4.heap.size w4).alloc (Nat.le_refl _) (.map #[] 0))
  replace k0 : (w4.alloc (.map #[] 0)).cell? ⟨gf, 0, none⟩ = some (.pointer (some ⟨g, 0, none⟩)) := (blk_cell (blk_below HFB.out HB.out) 0).trans rfl
  replace k1 : (w4.alloc (.map #[] 0)).cell? ⟨gf, 1, none⟩ = some (.pointer (some ⟨gm, 0, none⟩)) := (blk_cell (blk_below HFB.out HB.out) 1).trans rfl
  go_upto_region 6 with (first | ((with_reducible refine gate_op (u := .insert 52 (.tmp 26) (.const (.int .u8 1)) (.tmp 31)) rfl ?_); refine ev_insert _ rfl _ _ _ 52 rfl 5 51 lawk Try.underlying52 (RV g gm) w4.heap.size 0 _ rfl O.out (by unfold maxLen; omega) _ (.agg (V1 g gm)) _ rfl rfl (keyOf_int_mk Try.underlying5 (by decide)) _ [] (RV_1 g gm) ?_; intro x0 o_ g_; have n0_ := Aside0.mk o_; have n1_ := Aside0.mk (HB.out.grown g_ HB.out.size (fun j hj => by cases hj; exact Nat.le_refl _)); clear O HB o_ g_; have O := n0_; have HB := n1_; clear n0_ n1_; have k0 : x0.cell? ⟨gf, 0, none⟩ = some (.pointer (some ⟨g, 0, none⟩)) := (blk_cell (blk_below HFB.out HB.out) 0).trans rfl; have k1 : x0.cell? ⟨gf, 1, none⟩ = some (.pointer (some ⟨gm, 0, none⟩)) := (blk_cell (blk_below HFB.out HB.out) 1).trans rfl) | ((with_reducible refine gate_op (u := .insert 52 (.tmp 26) (.const (.int .u8 2)) (.tmp 36)) rfl ?_); refine ev_insert _ rfl _ _ _ 52 rfl 5 51 lawk Try.underlying52 (RV g gm) w4.heap.size 1 _ rfl O.out (by unfold maxLen; omega) _ (.agg (V1 g gm)) _ rfl rfl (keyOf_int_mk Try.underlying5 (by decide)) _ [] (RV_1 g gm) ?_; intro x1 o_ g_; have n0_ := Aside0.mk o_; have n1_ := Aside0.mk (HB.out.grown g_ HB.out.size (fun j hj => by cases hj; exact Nat.le_refl _)); clear O HB o_ g_; have O := n0_; have HB := n1_; clear n0_ n1_; have k0 : x1.cell? ⟨gf, 0, none⟩ = some (.pointer (some ⟨g, 0, none⟩)) := (blk_cell (blk_below HFB.out HB.out) 0).trans rfl; have k1 : x1.cell? ⟨gf, 1, none⟩ = some (.pointer (some ⟨gm, 0, none⟩)) := (blk_cell (blk_below HFB.out HB.out) 1).trans rfl) | ((with_reducible refine gate_op (u := .insert 52 (.tmp 26) (.const (.int .u8 5)) (.tmp 41)) rfl ?_); refine ev_insert _ rfl _ _ _ 52 rfl 5 51 lawk Try.underlying52 (RV g gm) w4.heap.size 2 _ rfl O.out (by unfold maxLen; omega) _ (.agg (V5 g gm)) _ rfl rfl (keyOf_int_mk Try.underlying5 (by decide)) _ [] (RV_5 g gm) ?_; intro x2 o_ g_; have n0_ := Aside0.mk o_; have n1_ := Aside0.mk (HB.out.grown g_ HB.out.size (fun j hj => by cases hj; exact Nat.le_refl _)); clear O HB o_ g_; have O := n0_; have HB := n1_; clear n0_ n1_; have k0 : x2.cell? ⟨gf, 0, none⟩ = some (.pointer (some ⟨g, 0, none⟩)) := (blk_cell (blk_below HFB.out HB.out) 0).trans rfl; have k1 : x2.cell? ⟨gf, 1, none⟩ = some (.pointer (some ⟨gm, 0, none⟩)) := (blk_cell (blk_below HFB.out HB.out) 1).trans rfl) | ((with_reducible refine gate_op (u := .insert 52 (.tmp 26) (.const (.int .u8 15)) (.tmp 46)) rfl ?_); refine ev_insert _ rfl _ _ _ 52 rfl 5 51 lawk Try.underlying52 (RV g gm) w4.heap.size 3 _ rfl O.out (by unfold maxLen; omega) _ (.agg (V15 g gm)) _ rfl rfl (keyOf_int_mk Try.underlying5 (by decide)) _ [] (RV_15 g gm) ?_; intro x3 o_ g_; have n0_ := Aside0.mk o_; have n1_ := Aside0.mk (HB.out.grown g_ HB.out.size (fun j hj => by cases hj; exact Nat.le_refl _)); clear O HB o_ g_; have O := n0_; have HB := n1_; clear n0_ n1_; have k0 : x3.cell? ⟨gf, 0, none⟩ = some (.pointer (some ⟨g, 0, none⟩)) := (blk_cell (blk_below HFB.out HB.out) 0).trans rfl; have k1 : x3.cell? ⟨gf, 1, none⟩ = some (.pointer (some ⟨gm, 0, none⟩)) := (blk_cell (blk_below HFB.out HB.out) 1).trans rfl))
  clear k0 k1
  have HKW := Aside0.mk (show (Lit.int .u8 (15)).wf = true from by decide)
  have lk : (Instr.lookup 52 (.map (some w4.heap.size)) (.int .u8 (15)) true).run Try.prog x3 = .ok (.tuple #[.agg (V15 g gm), .bool true]) x3 := by
    have h := look_p O.out (15) HKW.out
    exact h
  have n0_ := Aside0.mk (PS.St.below HP.out HB.out)
  have n1_ := Aside0.mk (blk_below HFB.out HB.out)
  clear HP HFB HB O
  have HP := n0_
  have HFB := n1_
  clear n0_ n1_
  go_upto_region 7 with (first | ((with_reducible refine gate_dst (N := 11) rfl ?_); refine ev_var2 (y := .tmp 52) (cx := V15 g gm) (zc := VZ) 51 (fun W => run_alloc_pair _ _ rfl W) rfl rfl rfl rfl rfl (by kernel_rfl) (by simp [V1, V5, V15, VZ, Value.oneCell']) rfl rfl ?_; intro gv w5 hg_ h1_ hb_; have HVB := Aside0.mk h1_; have n0_ := Aside0.mk (PS.St.below HP.out hb_); have n1_ := Aside0.mk (blk_below HFB.out hb_); clear HP HFB; have HP := n0_; have HFB := n1_; clear n0_ n1_ h1_ hb_ hg_))
  clear lk hmm
  go_upto_region 9 with (fail)
  have kv : w5.cell? ⟨gv, 0, none⟩ = some (.func (.func 24) #[.agg #[.pointer (some ⟨g, 0, none⟩), .pointer (some ⟨gm, 0, none⟩)]] #[]) := (blk_cell HVB.out 0).trans rfl
  have n0_ := Aside0.mk (PS.Sk.start HP.out)
  clear HP
  have HP := n0_
  clear n0_
  obtain ⟨m0, hm0⟩ : ∃ z, z = ({ zeroM with code := 15 } : Msg) := ⟨_, rfl⟩
  rw [← hm0] at HP
  have HM0 := Aside0.mk hm0
  clear hm0 M NL
  go_upto_region 10 with (first | (go_at_call 24; (with_reducible refine (setsMany_any HP.out).mono ?_); rintro en w6 ⟨rfl, hp_⟩; obtain ⟨cb, e_⟩ : ∃ z, z = manyR m0 ⟨l, false, 0⟩ := ⟨_, rfl⟩; rw [← e_] at hp_; obtain ⟨c9, m9⟩ := cb; have EB := Aside0.mk e_; clear e_; have n0_ := Aside0.mk hp_; clear HP hp_; have HP := n0_; clear n0_))
  clear kv
  replace HP : Aside0 (PS.Sk w5 w0 gr g gm w6 c9 m9) := HP
  have k0 : w6.cell? ⟨gf, 0, none⟩ = some (.pointer (some ⟨g, 0, none⟩)) := (blk_cell (PS.Sk.blk HP.out HFB.out HF1.out HF2.out) 0).trans rfl
  go_upto_region 11 with (first | (go_at_call 26; (with_reducible refine (PS.Sk.fin HP.out).mono ?_); rintro en x1 ⟨rfl, hp_⟩; obtain ⟨c10, ec_⟩ : ∃ z, z = c9.fin := ⟨_, rfl⟩; rw [← ec_] at hp_; have Ec10 := Aside0.mk ec_; clear ec_; have n0_ := Aside0.mk hp_; clear HP hp_; have HP := n0_; clear n0_))
  clear k0
  have k0 : x1.cell? ⟨gf, 0, none⟩ = some (.pointer (some ⟨g, 0, none⟩)) := (blk_cell (PS.Sk.blk HP.out HFB.out HF1.out HF2.out) 0).trans rfl
  go_upto_region 12 with (first | (go_at_call 27; (with_reducible refine (PS.Sk.err HP.out).mono ?_); rintro en x2 ⟨rfl, hp_⟩; have n0_ := Aside0.mk hp_; clear HP hp_; have HP := n0_; clear n0_))
  clear k0
  have n0_ := Aside0.mk HP.out.st
  clear HP HFB HVB
  have HP := n0_
  clear n0_
  have he1 : parse 0 15 l = if c10.e ≠ 0 then (zeroM, c10.e) else (m9, 0) := by
    have e2 : bodyR 0 15 { zeroM with code := 15 } (cu l) = (c9, m9) := by rw [EB.out, HM0.out]; rfl
    unfold parse
    rw [if_neg (by decide), if_neg (by decide), e2, Ec10.out]
  by_cases h9 : c10.e = 0
  · have ex_ : parse 0 15 l = (m9, 0) := by rw [he1, if_neg (fun h => h h9)]
    have EX := Aside0.mk ex_
    have g1 : (c10.e != 0) = false := by rw [h9]; rfl
    have g2 : (c10.e == 0) = true := by rw [h9]; rfl
    clear h9 ex_ he1
    obtain ⟨cx, h_, hz_, hm_⟩ := PS.St.held2 HP.out
    have H := Aside0.mk h_
    have HZ := Aside0.mk hz_
    have HM := Aside0.mk hm_
    have HB := Aside0.mk HP.out.b
    clear h_ hz_ hm_ HP
    go_wp2_with (first | ((with_reducible refine gate_dst (N := 71) rfl ?_); refine ev_load (x := .tmp 8) rfl rfl rfl H.out (i := 1) rfl (HZ.out) ?_) | ((with_reducible refine gate_op (u := .store 30 (.tmp 6) (.tmp 71)) rfl ?_); refine ev_store rfl rfl rfl rfl H.out (i := 0) rfl rfl (HM.out _ ⟨rfl, rfl, rfl, Kept.refl _ _⟩) ?_; intro x91 h3_ h4_; have HE := Aside0.mk (HM.out _ h4_); clear h4_; have n0_ := Aside0.mk (h3_); clear H; have H := n0_; clear n0_; clear h3_))
    refine bodyPost_ret (results_ct rfl _ _ gr 30 _ (0, 0) _ rfl (H.out.at 0 rfl) Try.underlying30 rfl (msg_info (HZ.out))) rfl (by rw [EX.out]; exact ⟨_, rfl, HE.out, H.out.b⟩)
  · have ex_ : parse 0 15 l = (zeroM, c10.e) := by rw [he1, if_pos h9]
    have EX := Aside0.mk ex_
    have g1 : (c10.e != 0) = true := by simpa using h9
    have g2 : (c10.e == 0) = false := by simpa using h9
    clear h9 ex_ he1
    have H := Aside0.mk (PS.St.held HP.out)
    clear HP
    go_wp2_with (first | ((with_reducible refine gate_dst (N := 69) rfl ?_); refine ev_build (zeroC) rfl (by go_simp; first | rfl | done) ?_; intro cx hcx_; have M := Aside0.mk (show ∀ W, IsMsg W cx _ from fun W => by rw [hcx_]; exact zero_is W); clear hcx_) | ((with_reducible refine gate_op (u := .store 30 (.tmp 6) (.tmp 69)) rfl ?_); refine ev_store rfl rfl rfl rfl H.out (i := 0) rfl (rfl) (M.out w0) ?_; intro x90 h3_ h4_; have n0_ := Aside0.mk (h3_); clear H; have H := n0_; clear n0_; clear h3_ h4_))
    refine bodyPost_ret (results_ct rfl _ _ gr 30 _ (0, 0) _ rfl (H.out.at 0 rfl) Try.underlying30 rfl (msg_info ((M.out w0).size))) rfl (by rw [EX.out]; exact ⟨_, rfl, M.out _, H.out.b⟩)
theorem parse_no1 {A : Option Addr} {c : Nat} {l : List Int} {w0 : World} (hr : Kd.C (Kd.int .u8) w0 A l.length l) (hc : l.length ≤ c) (hs : l.length ≤ 1000000) (hb : isBytes l) {code : Int} (hcd : 0 ≤ code ∧ code < 256) (hk : ¬ (code = 1 ∨ code = 2 ∨ code = 5 ∨ code = 15)) :
    Calls Try.prog 13 #[.int .i64 1, .int .u8 code, .slice A l.length c] w0 fun en w' => ∃ cx, en = .returned (.tuple #[.agg cx, .int .i64 4]) ∧ IsMsg w' cx zeroM ∧ Below w0.heap.size w0 w' := by
  have HR := Aside0.mk hr
  have HC := Aside0.mk hc
  have HS := Aside0.mk hs
  have HBB := Aside0.mk hb
  clear hr hc hs hb
  have hmm := @run_makeMap Try.prog
  have HKB := Aside0.mk hcd
  clear hcd
  have HKN := Aside0.mk hk
  clear hk
  go_enter Try.func13, Try.ntmps13
  go_upto_region 3 with (first | ((with_reducible refine gate_dst (N := 6) rfl ?_); refine ev_alloc rfl rfl ?_; intro gr w1 hg_ h1_ h2_; have HG := Aside0.mk hg_; have H1 := Aside0.mk h1_; have H2 := Aside0.mk h2_; clear hg_ h1_ h2_))
  go_upto_region 4 with (first | ((with_reducible refine gate_dst (N := 22) rfl ?_); refine ev_build ((zeroC.setIfInBounds 0 (.int .u8 (code)))) rfl (by go_simp; first | rfl | done) ?_; intro cx hcx_; have M := Aside0.mk (show ∀ W, IsMsg W cx _ from fun W => by rw [hcx_]; exact (fun W => set_code (zero_is W) (v := code) ⟨by have := HKB.out; omega, by have := HKB.out; omega⟩) W); have NL := Aside0.mk (show NilL cx by rw [hcx_]; exact PS.zero_nil.set (by decide)); clear hcx_) | ((with_reducible refine gate_dst (N := 8) rfl ?_); refine ev_var (y := .tmp 22) rfl rfl rfl rfl rfl (M.out w0) rfl rfl ?_; intro gm w2 hg_ h1_ hb_; have HM1 := Aside0.mk hg_; have HM2 := Aside0.mk h1_; have HM3 := Aside0.mk hb_; clear h1_ hb_ hg_))
  go_upto_region 5 with (first | (go_at_call 20; (with_reducible refine (p_new A c l _ (Kd.C_below HR.out (H2.out.trans (HM3.out.mono H2.out.size))) HC.out HS.out HBB.out).mono ?_); rintro en w3 ⟨g, rfl, q1_, q2_, q3_, q4_⟩; have HP := Aside0.mk (St_first HG.out H1.out H2.out HM1.out HM2.out HM3.out M.out NL.out q1_ q2_ q3_); clear q1_ q2_ q3_ q4_ H1 H2 HG HM1 HM2 HM3) | ((with_reducible refine gate_dst (N := 9) rfl ?_); refine ev_var2 (y := .tmp 25) (cx := #[.pointer (some ⟨g, 0, none⟩), .pointer (some ⟨gm, 0, none⟩)]) (zc := #[.pointer none, .pointer none]) 50 (fun W => run_alloc_form _ _ rfl W) rfl rfl rfl rfl rfl (by kernel_rfl) (by simp [Value.oneCell']) rfl rfl ?_; intro gf w4 hg_ h1_ hb_; have hl_ := PS.Sk.lt (PS.Sk.start HP.out); have HF1 := Aside0.mk (show gf ≠ g from by omega); have HF2 := Aside0.mk (show gf ≠ gm from by omega); have HFB := Aside0.mk h1_; have n0_ := Aside0.mk (PS.St.below HP.out hb_); clear HP; have HP := n0_; clear n0_ h1_ hb_ hg_ hl_))
  have k0 : w4.cell? ⟨gf, 0, none⟩ = some (.pointer (some ⟨g, 0, none⟩)) := (blk_cell HFB.out 0).trans rfl
  have k1 : w4.cell? ⟨gf, 1, none⟩ = some (.pointer (some ⟨gm, 0, none⟩)) := (blk_cell HFB.out 1).trans rfl
  have O : Aside0 ((w4.alloc (.map #[] 0)).ownsMap Try.prog 5 (RV g gm) w4.heap.size 0 D0) := ⟨World.ownsMap_made _ _ _ _⟩
  have HB := Aside0.mk ((Below.refl w4.heap.size w4).alloc (Nat.le_refl _) (.map #[] 0))
  replace k0 : (w4.alloc (.map #[] 0)).cell? ⟨gf, 0, none⟩ = some (.pointer (some ⟨g, 0, none⟩)) := (blk_cell (blk_below HFB.out HB.out) 0).trans rfl
  replace k1 : (w4.alloc (.map #[] 0)).cell? ⟨gf, 1, none⟩ = some (.pointer (some ⟨gm, 0, none⟩)) := (blk_cell (blk_below HFB.out HB.out) 1).trans rfl
  go_upto_region 6 with (first | ((with_reducible refine gate_op (u := .insert 52 (.tmp 26) (.const (.int .u8 1)) (.tmp 31)) rfl ?_); refine ev_insert _ rfl _ _ _ 52 rfl 5 51 lawk Try.underlying52 (RV g gm) w4.heap.size 0 _ rfl O.out (by unfold maxLen; omega) _ (.agg (V1 g gm)) _ rfl rfl (keyOf_int_mk Try.underlying5 (by decide)) _ [] (RV_1 g gm) ?_; intro x0 o_ g_; have n0_ := Aside0.mk o_; have n1_ := Aside0.mk (HB.out.grown g_ HB.out.size (fun j hj => by cases hj; exact Nat.le_refl _)); clear O HB o_ g_; have O := n0_; have HB := n1_; clear n0_ n1_; have k0 : x0.cell? ⟨gf, 0, none⟩ = some (.pointer (some ⟨g, 0, none⟩)) := (blk_cell (blk_below HFB.out HB.out) 0).trans rfl; have k1 : x0.cell? ⟨gf, 1, none⟩ = some (.pointer (some ⟨gm, 0, none⟩)) := (blk_cell (blk_below HFB.out HB.out) 1).trans rfl) | ((with_reducible refine gate_op (u := .insert 52 (.tmp 26) (.const (.int .u8 2)) (.tmp 36)) rfl ?_); refine ev_insert _ rfl _ _ _ 52 rfl 5 51 lawk Try.underlying52 (RV g gm) w4.heap.size 1 _ rfl O.out (by unfold maxLen; omega) _ (.agg (V1 g gm)) _ rfl rfl (keyOf_int_mk Try.underlying5 (by decide)) _ [] (RV_1 g gm) ?_; intro x1 o_ g_; have n0_ := Aside0.mk o_; have n1_ := Aside0.mk (HB.out.grown g_ HB.out.size (fun j hj => by cases hj; exact Nat.le_refl _)); clear O HB o_ g_; have O := n0_; have HB := n1_; clear n0_ n1_; have k0 : x1.cell? ⟨gf, 0, none⟩ = some (.pointer (some ⟨g, 0, none⟩)) := (blk_cell (blk_below HFB.out HB.out) 0).trans rfl; have k1 : x1.cell? ⟨gf, 1, none⟩ = some (.pointer (some ⟨gm, 0, none⟩)) := (blk_cell (blk_below HFB.out HB.out) 1).trans rfl) | ((with_reducible refine gate_op (u := .insert 52 (.tmp 26) (.const (.int .u8 5)) (.tmp 41)) rfl ?_); refine ev_insert _ rfl _ _ _ 52 rfl 5 51 lawk Try.underlying52 (RV g gm) w4.heap.size 2 _ rfl O.out (by unfold maxLen; omega) _ (.agg (V5 g gm)) _ rfl rfl (keyOf_int_mk Try.underlying5 (by decide)) _ [] (RV_5 g gm) ?_; intro x2 o_ g_; have n0_ := Aside0.mk o_; have n1_ := Aside0.mk (HB.out.grown g_ HB.out.size (fun j hj => by cases hj; exact Nat.le_refl _)); clear O HB o_ g_; have O := n0_; have HB := n1_; clear n0_ n1_; have k0 : x2.cell? ⟨gf, 0, none⟩ = some (.pointer (some ⟨g, 0, none⟩)) := (blk_cell (blk_below HFB.out HB.out) 0).trans rfl; have k1 : x2.cell? ⟨gf, 1, none⟩ = some (.pointer (some ⟨gm, 0, none⟩)) := (blk_cell (blk_below HFB.out HB.out) 1).trans rfl) | ((with_reducible refine gate_op (u := .insert 52 (.tmp 26) (.const (.int .u8 15)) (.tmp 46)) rfl ?_); refine ev_insert _ rfl _ _ _ 52 rfl 5 51 lawk Try.underlying52 (RV g gm) w4.heap.size 3 _ rfl O.out (by unfold maxLen; omega) _ (.agg (V15 g gm)) _ rfl rfl (keyOf_int_mk Try.underlying5 (by decide)) _ [] (RV_15 g gm) ?_; intro x3 o_ g_; have n0_ := Aside0.mk o_; have n1_ := Aside0.mk (HB.out.grown g_ HB.out.size (fun j hj => by cases hj; exact Nat.le_refl _)); clear O HB o_ g_; have O := n0_; have HB := n1_; clear n0_ n1_; have k0 : x3.cell? ⟨gf, 0, none⟩ = some (.pointer (some ⟨g, 0, none⟩)) := (blk_cell (blk_below HFB.out HB.out) 0).trans rfl; have k1 : x3.cell? ⟨gf, 1, none⟩ = some (.pointer (some ⟨gm, 0, none⟩)) := (blk_cell (blk_below HFB.out HB.out) 1).trans rfl))
  clear k0 k1
  have HKW := Aside0.mk (show (Lit.int .u8 (code)).wf = true from by have := HKB.out; simp [Lit.wf, IntKind.min, IntKind.max, IntKind.signed, IntKind.bits]; omega)
  have lk : (Instr.lookup 52 (.map (some w4.heap.size)) (.int .u8 (code)) true).run Try.prog x3 = .ok (.tuple #[.agg (VZ), .bool false]) x3 := by
    have h := look_p O.out (code) HKW.out
    rw [if_neg (by have := HKN.out; omega), if_neg (by have := HKN.out; omega), if_neg (by have := HKN.out; omega)] at h
    exact h
  have n0_ := Aside0.mk (PS.St.below HP.out HB.out)
  have n1_ := Aside0.mk (blk_below HFB.out HB.out)
  clear HP HFB HB O
  have HP := n0_
  have HFB := n1_
  clear n0_ n1_
  go_upto_region 7 with (first | ((with_reducible refine gate_dst (N := 11) rfl ?_); refine ev_var2 (y := .tmp 52) (cx := VZ) (zc := VZ) 51 (fun W => run_alloc_pair _ _ rfl W) rfl rfl rfl rfl rfl (by kernel_rfl) (by simp [V1, V5, V15, VZ, Value.oneCell']) rfl rfl ?_; intro gv w5 hg_ h1_ hb_; have HVB := Aside0.mk h1_; have n0_ := Aside0.mk (PS.St.below HP.out hb_); have n1_ := Aside0.mk (blk_below HFB.out hb_); clear HP HFB; have HP := n0_; have HFB := n1_; clear n0_ n1_ h1_ hb_ hg_))
  clear lk hmm
  have H := Aside0.mk (PS.St.held HP.out)
  clear HP M NL
  go_wp2_with (first | ((with_reducible refine gate_dst (N := 56) rfl ?_); refine ev_build (zeroC) rfl (by go_simp; first | rfl | done) ?_; intro cx hcx_; have M := Aside0.mk (show ∀ W, IsMsg W cx _ from fun W => by rw [hcx_]; exact zero_is W); clear hcx_) | ((with_reducible refine gate_op (u := .store 30 (.tmp 6) (.tmp 56)) rfl ?_); refine ev_store rfl rfl rfl rfl H.out (i := 0) rfl (rfl) (M.out w0) ?_; intro w99 h3_ h4_; have n0_ := Aside0.mk (h3_); clear H; have H := n0_; clear n0_; clear h3_ h4_))
  refine bodyPost_ret (results_ct rfl _ _ gr 30 _ (0, 0) _ rfl (H.out.at 0 rfl) Try.underlying30 rfl (msg_info ((M.out w0).size))) rfl (⟨_, rfl, M.out _, H.out.b⟩)
theorem parse_1_1 {A : Option Addr} {c : Nat} {l : List Int} {w0 : World} (hr : Kd.C (Kd.int .u8) w0 A l.length l) (hc : l.length ≤ c) (hs : l.length ≤ 1000000) (hb : isBytes l) :
    Calls Try.prog 13 #[.int .i64 1, .int .u8 1, .slice A l.length c] w0 fun en w' => ∃ cx, en = .returned (.tuple #[.agg cx, .int .i64 (parse 1 1 l).2]) ∧ IsMsg w' cx (parse 1 1 l).1 ∧ Below w0.heap.size w0 w' := by
  have HR := Aside0.mk hr
  have HC := Aside0.mk hc
  have HS := Aside0.mk hs
  have HBB := Aside0.mk hb
  clear hr hc hs hb
  have hmm := @run_makeMap Try.prog
  go_enter Try.func13, Try.ntmps13
  go_upto_region 3 with (first | ((with_reducible refine gate_dst (N := 6) rfl ?_); refine ev_alloc rfl rfl ?_; intro gr w1 hg_ h1_ h2_; have HG := Aside0.mk hg_; have H1 := Aside0.mk h1_; have H2 := Aside0.mk h2_; clear hg_ h1_ h2_))
  go_upto_region 4 with (first | ((with_reducible refine gate_dst (N := 22) rfl ?_); refine ev_build ((zeroC.setIfInBounds 0 (.int .u8 (1)))) rfl (by go_simp; first | rfl | done) ?_; intro cx hcx_; have M := Aside0.mk (show ∀ W, IsMsg W cx _ from fun W => by rw [hcx_]; exact (fun W => set_code (zero_is W) (v := 1) (by decide)) W); have NL := Aside0.mk (show NilL cx by rw [hcx_]; exact PS.zero_nil.set (by decide)); clear hcx_) | ((with_reducible refine gate_dst (N := 8) rfl ?_); refine ev_var (y := .tmp 22) rfl rfl rfl rfl rfl (M.out w0) rfl rfl ?_; intro gm w2 hg_ h1_ hb_; have HM1 := Aside0.mk hg_; have HM2 := Aside0.mk h1_; have HM3 := Aside0.mk hb_; clear h1_ hb_ hg_))
  go_upto_region 5 with (first | (go_at_call 20; (with_reducible refine (p_new A c l _ (Kd.C_below HR.out (H2.out.trans (HM3.out.mono H2.out.size))) HC.out HS.out HBB.out).mono ?_); rintro en w3 ⟨g, rfl, q1_, q2_, q3_, q4_⟩; have HP := Aside0.mk (St_first HG.out H1.out H2.out HM1.out HM2.out HM3.out M.out NL.out q1_ q2_ q3_); clear q1_ q2_ q3_ q4_ H1 H2 HG HM1 HM2 HM3) | ((with_reducible refine gate_dst (N := 9) rfl ?_); refine ev_var2 (y := .tmp 25) (cx := #[.pointer (some ⟨g, 0, none⟩), .pointer (some ⟨gm, 0, none⟩)]) (zc := #[.pointer none, .pointer none]) 50 (fun W => run_alloc_form _ _ rfl W) rfl rfl rfl rfl rfl (by kernel_rfl) (by simp [Value.oneCell']) rfl rfl ?_; intro gf w4 hg_ h1_ hb_; have hl_ := PS.Sk.lt (PS.Sk.start HP.out); have HF1 := Aside0.mk (show gf ≠ g from by omega); have HF2 := Aside0.mk (show gf ≠ gm from by omega); have HFB := Aside0.mk h1_; have n0_ := Aside0.mk (PS.St.below HP.out hb_); clear HP; have HP := n0_; clear n0_ h1_ hb_ hg_ hl_))
  have k0 : w4.cell? ⟨gf, 0, none⟩ = some (.pointer (some ⟨g, 0, none⟩)) := (blk_cell HFB.out 0).trans rfl
  have k1 : w4.cell? ⟨gf, 1, none⟩ = some (.pointer (some ⟨gm, 0, none⟩)) := (blk_cell HFB.out 1).trans rfl
  have O : Aside0 ((w4.alloc (.map #[] 0)).ownsMap Try.prog 5 (RV g gm) w4.heap.size 0 D0) := ⟨World.ownsMap_made _ _ _ _⟩
  have HB := Aside0.mk ((Below.refl w4.heap.size w4).alloc (Nat.le_refl _) (.map #[] 0))
  replace k0 : (w4.alloc (.map #[] 0)).cell? ⟨gf, 0, none⟩ = some (.pointer (some ⟨g, 0, none⟩)) := (blk_cell (blk_below HFB.out HB.out) 0).trans rfl
  replace k1 : (w4.alloc (.map #[] 0)).cell? ⟨gf, 1, none⟩ = some (.pointer (some ⟨gm, 0, none⟩)) := (blk_cell (blk_below HFB.out HB.out) 1).trans rfl
  go_upto_region 6 with (first | ((with_reducible refine gate_op (u := .insert 52 (.tmp 26) (.const (.int .u8 1)) (.tmp 31)) rfl ?_); refine ev_insert _ rfl _ _ _ 52 rfl 5 51 lawk Try.underlying52 (RV g gm) w4.heap.size 0 _ rfl O.out (by unfold maxLen; omega) _ (.agg (V1 g gm)) _ rfl rfl (keyOf_int_mk Try.underlying5 (by decide)) _ [] (RV_1 g gm) ?_; intro x0 o_ g_; have n0_ := Aside0.mk o_; have n1_ := Aside0.mk (HB.out.grown g_ HB.out.size (fun j hj => by cases hj; exact Nat.le_refl _)); clear O HB o_ g_; have O := n0_; have HB := n1_; clear n0_ n1_; have k0 : x0.cell? ⟨gf, 0, none⟩ = some (.pointer (some ⟨g, 0, none⟩)) := (blk_cell (blk_below HFB.out HB.out) 0).trans rfl; have k1 : x0.cell? ⟨gf, 1, none⟩ = some (.pointer (some ⟨gm, 0, none⟩)) := (blk_cell (blk_below HFB.out HB.out) 1).trans rfl) | ((with_reducible refine gate_op (u := .insert 52 (.tmp 26) (.const (.int .u8 2)) (.tmp 36)) rfl ?_); refine ev_insert _ rfl _ _ _ 52 rfl 5 51 lawk Try.underlying52 (RV g gm) w4.heap.size 1 _ rfl O.out (by unfold maxLen; omega) _ (.agg (V1 g gm)) _ rfl rfl (keyOf_int_mk Try.underlying5 (by decide)) _ [] (RV_1 g gm) ?_; intro x1 o_ g_; have n0_ := Aside0.mk o_; have n1_ := Aside0.mk (HB.out.grown g_ HB.out.size (fun j hj => by cases hj; exact Nat.le_refl _)); clear O HB o_ g_; have O := n0_; have HB := n1_; clear n0_ n1_; have k0 : x1.cell? ⟨gf, 0, none⟩ = some (.pointer (some ⟨g, 0, none⟩)) := (blk_cell (blk_below HFB.out HB.out) 0).trans rfl; have k1 : x1.cell? ⟨gf, 1, none⟩ = some (.pointer (some ⟨gm, 0, none⟩)) := (blk_cell (blk_below HFB.out HB.out) 1).trans rfl) | ((with_reducible refine gate_op (u := .insert 52 (.tmp 26) (.const (.int .u8 5)) (.tmp 41)) rfl ?_); refine ev_insert _ rfl _ _ _ 52 rfl 5 51 lawk Try.underlying52 (RV g gm) w4.heap.size 2 _ rfl O.out (by unfold maxLen; omega) _ (.agg (V5 g gm)) _ rfl rfl (keyOf_int_mk Try.underlying5 (by decide)) _ [] (RV_5 g gm) ?_; intro x2 o_ g_; have n0_ := Aside0.mk o_; have n1_ := Aside0.mk (HB.out.grown g_ HB.out.size (fun j hj => by cases hj; exact Nat.le_refl _)); clear O HB o_ g_; have O := n0_; have HB := n1_; clear n0_ n1_; have k0 : x2.cell? ⟨gf, 0, none⟩ = some (.pointer (some ⟨g, 0, none⟩)) := (blk_cell (blk_below HFB.out HB.out) 0).trans rfl; have k1 : x2.cell? ⟨gf, 1, none⟩ = some (.pointer (some ⟨gm, 0, none⟩)) := (blk_cell (blk_below HFB.out HB.out) 1).trans rfl) | ((with_reducible refine gate_op (u := .insert 52 (.tmp 26) (.const (.int .u8 15)) (.tmp 46)) rfl ?_); refine ev_insert _ rfl _ _ _ 52 rfl 5 51 lawk Try.underlying52 (RV g gm) w4.heap.size 3 _ rfl O.out (by unfold maxLen; omega) _ (.agg (V15 g gm)) _ rfl rfl (keyOf_int_mk Try.underlying5 (by decide)) _ [] (RV_15 g gm) ?_; intro x3 o_ g_; have n0_ := Aside0.mk o_; have n1_ := Aside0.mk (HB.out.grown g_ HB.out.size (fun j hj => by cases hj; exact Nat.le_refl _)); clear O HB o_ g_; have O := n0_; have HB := n1_; clear n0_ n1_; have k0 : x3.cell? ⟨gf, 0, none⟩ = some (.pointer (some ⟨g, 0, none⟩)) := (blk_cell (blk_below HFB.out HB.out) 0).trans rfl; have k1 : x3.cell? ⟨gf, 1, none⟩ = some (.pointer (some ⟨gm, 0, none⟩)) := (blk_cell (blk_below HFB.out HB.out) 1).trans rfl))
  clear k0 k1
  have HKW := Aside0.mk (show (Lit.int .u8 (1)).wf = true from by decide)
  have lk : (Instr.lookup 52 (.map (some w4.heap.size)) (.int .u8 (1)) true).run Try.prog x3 = .ok (.tuple #[.agg (V1 g gm), .bool true]) x3 := by
    have h := look_p O.out (1) HKW.out
    exact h
  have n0_ := Aside0.mk (PS.St.below HP.out HB.out)
  have n1_ := Aside0.mk (blk_below HFB.out HB.out)
  clear HP HFB HB O
  have HP := n0_
  have HFB := n1_
  clear n0_ n1_
  go_upto_region 7 with (first | ((with_reducible refine gate_dst (N := 11) rfl ?_); refine ev_var2 (y := .tmp 52) (cx := V1 g gm) (zc := VZ) 51 (fun W => run_alloc_pair _ _ rfl W) rfl rfl rfl rfl rfl (by kernel_rfl) (by simp [V1, V5, V15, VZ, Value.oneCell']) rfl rfl ?_; intro gv w5 hg_ h1_ hb_; have HVB := Aside0.mk h1_; have n0_ := Aside0.mk (PS.St.below HP.out hb_); have n1_ := Aside0.mk (blk_below HFB.out hb_); clear HP HFB; have HP := n0_; have HFB := n1_; clear n0_ n1_ h1_ hb_ hg_))
  clear lk hmm
  go_upto_region 9 with (fail)
  have kv : w5.cell? ⟨gv, 1, none⟩ = some (.func (.func 22) #[.agg #[.pointer (some ⟨g, 0, none⟩), .pointer (some ⟨gm, 0, none⟩)]] #[]) := (blk_cell HVB.out 1).trans rfl
  have n0_ := Aside0.mk (PS.Sk.start HP.out)
  clear HP
  have HP := n0_
  clear n0_
  obtain ⟨m0, hm0⟩ : ∃ z, z = ({ zeroM with code := 1 } : Msg) := ⟨_, rfl⟩
  rw [← hm0] at HP
  have HM0 := Aside0.mk hm0
  clear hm0 M NL
  go_upto_region 10 with (first | (go_at_call 22; (with_reducible refine (told_any HP.out).mono ?_); rintro en w6 ⟨rfl, hp_⟩; obtain ⟨cb, e_⟩ : ∃ z, z = toldR m0 ⟨l, false, 0⟩ := ⟨_, rfl⟩; rw [← e_] at hp_; obtain ⟨c9, m9⟩ := cb; have EB := Aside0.mk e_; clear e_; have n0_ := Aside0.mk hp_; clear HP hp_; have HP := n0_; clear n0_))
  clear kv
  replace HP : Aside0 (PS.Sk w5 w0 gr g gm w6 c9 m9) := HP
  have k0 : w6.cell? ⟨gf, 0, none⟩ = some (.pointer (some ⟨g, 0, none⟩)) := (blk_cell (PS.Sk.blk HP.out HFB.out HF1.out HF2.out) 0).trans rfl
  go_upto_region 11 with (first | (go_at_call 26; (with_reducible refine (PS.Sk.fin HP.out).mono ?_); rintro en x1 ⟨rfl, hp_⟩; obtain ⟨c10, ec_⟩ : ∃ z, z = c9.fin := ⟨_, rfl⟩; rw [← ec_] at hp_; have Ec10 := Aside0.mk ec_; clear ec_; have n0_ := Aside0.mk hp_; clear HP hp_; have HP := n0_; clear n0_))
  clear k0
  have k0 : x1.cell? ⟨gf, 0, none⟩ = some (.pointer (some ⟨g, 0, none⟩)) := (blk_cell (PS.Sk.blk HP.out HFB.out HF1.out HF2.out) 0).trans rfl
  go_upto_region 12 with (first | (go_at_call 27; (with_reducible refine (PS.Sk.err HP.out).mono ?_); rintro en x2 ⟨rfl, hp_⟩; have n0_ := Aside0.mk hp_; clear HP hp_; have HP := n0_; clear n0_))
  clear k0
  have n0_ := Aside0.mk HP.out.st
  clear HP HFB HVB
  have HP := n0_
  clear n0_
  have he1 : parse 1 1 l = if c10.e ≠ 0 then (zeroM, c10.e) else (m9, 0) := by
    have e2 : bodyR 1 1 { zeroM with code := 1 } (cu l) = (c9, m9) := by rw [EB.out, HM0.out]; rfl
    unfold parse
    rw [if_neg (by decide), if_neg (by decide), e2, Ec10.out]
  by_cases h9 : c10.e = 0
  · have ex_ : parse 1 1 l = (m9, 0) := by rw [he1, if_neg (fun h => h h9)]
    have EX := Aside0.mk ex_
    have g1 : (c10.e != 0) = false := by rw [h9]; rfl
    have g2 : (c10.e == 0) = true := by rw [h9]; rfl
    clear h9 ex_ he1
    obtain ⟨cx, h_, hz_, hm_⟩ := PS.St.held2 HP.out
    have H := Aside0.mk h_
    have HZ := Aside0.mk hz_
    have HM := Aside0.mk hm_
    have HB := Aside0.mk HP.out.b
    clear h_ hz_ hm_ HP
    go_wp2_with (first | ((with_reducible refine gate_dst (N := 71) rfl ?_); refine ev_load (x := .tmp 8) rfl rfl rfl H.out (i := 1) rfl (HZ.out) ?_) | ((with_reducible refine gate_op (u := .store 30 (.tmp 6) (.tmp 71)) rfl ?_); refine ev_store rfl rfl rfl rfl H.out (i := 0) rfl rfl (HM.out _ ⟨rfl, rfl, rfl, Kept.refl _ _⟩) ?_; intro x91 h3_ h4_; have HE := Aside0.mk (HM.out _ h4_); clear h4_; have n0_ := Aside0.mk (h3_); clear H; have H := n0_; clear n0_; clear h3_))
    refine bodyPost_ret (results_ct rfl _ _ gr 30 _ (0, 0) _ rfl (H.out.at 0 rfl) Try.underlying30 rfl (msg_info (HZ.out))) rfl (by rw [EX.out]; exact ⟨_, rfl, HE.out, H.out.b⟩)
  · have ex_ : parse 1 1 l = (zeroM, c10.e) := by rw [he1, if_pos h9]
    have EX := Aside0.mk ex_
    have g1 : (c10.e != 0) = true := by simpa using h9
    have g2 : (c10.e == 0) = false := by simpa using h9
    clear h9 ex_ he1
    have H := Aside0.mk (PS.St.held HP.out)
    clear HP
    go_wp2_with (first | ((with_reducible refine gate_dst (N := 69) rfl ?_); refine ev_build (zeroC) rfl (by go_simp; first | rfl | done) ?_; intro cx hcx_; have M := Aside0.mk (show ∀ W, IsMsg W cx _ from fun W => by rw [hcx_]; exact zero_is W); clear hcx_) | ((with_reducible refine gate_op (u := .store 30 (.tmp 6) (.tmp 69)) rfl ?_); refine ev_store rfl rfl rfl rfl H.out (i := 0) rfl (rfl) (M.out w0) ?_; intro x90 h3_ h4_; have n0_ := Aside0.mk (h3_); clear H; have H := n0_; clear n0_; clear h3_ h4_))
    refine bodyPost_ret (results_ct rfl _ _ gr 30 _ (0, 0) _ rfl (H.out.at 0 rfl) Try.underlying30 rfl (msg_info ((M.out w0).size))) rfl (by rw [EX.out]; exact ⟨_, rfl, M.out _, H.out.b⟩)
theorem parse_1_2 {A : Option Addr} {c : Nat} {l : List Int} {w0 : World} (hr : Kd.C (Kd.int .u8) w0 A l.length l) (hc : l.length ≤ c) (hs : l.length ≤ 1000000) (hb : isBytes l) :
    Calls Try.prog 13 #[.int .i64 1, .int .u8 2, .slice A l.length c] w0 fun en w' => ∃ cx, en = .returned (.tuple #[.agg cx, .int .i64 (parse 1 2 l).2]) ∧ IsMsg w' cx (parse 1 2 l).1 ∧ Below w0.heap.size w0 w' := by
  have HR := Aside0.mk hr
  have HC := Aside0.mk hc
  have HS := Aside0.mk hs
  have HBB := Aside0.mk hb
  clear hr hc hs hb
  have hmm := @run_makeMap Try.prog
  go_enter Try.func13, Try.ntmps13
  go_upto_region 3 with (first | ((with_reducible refine gate_dst (N := 6) rfl ?_); refine ev_alloc rfl rfl ?_; intro gr w1 hg_ h1_ h2_; have HG := Aside0.mk hg_; have H1 := Aside0.mk h1_; have H2 := Aside0.mk h2_; clear hg_ h1_ h2_))
  go_upto_region 4 with (first | ((with_reducible refine gate_dst (N := 22) rfl ?_); refine ev_build ((zeroC.setIfInBounds 0 (.int .u8 (2)))) rfl (by go_simp; first | rfl | done) ?_; intro cx hcx_; have M := Aside0.mk (show ∀ W, IsMsg W cx _ from fun W => by rw [hcx_]; exact (fun W => set_code (zero_is W) (v := 2) (by decide)) W); have NL := Aside0.mk (show NilL cx by rw [hcx_]; exact PS.zero_nil.set (by decide)); clear hcx_) | ((with_reducible refine gate_dst (N := 8) rfl ?_); refine ev_var (y := .tmp 22) rfl rfl rfl rfl rfl (M.out w0) rfl rfl ?_; intro gm w2 hg_ h1_ hb_; have HM1 := Aside0.mk hg_; have HM2 := Aside0.mk h1_; have HM3 := Aside0.mk hb_; clear h1_ hb_ hg_))
  go_upto_region 5 with (first | (go_at_call 20; (with_reducible refine (p_new A c l _ (Kd.C_below HR.out (H2.out.trans (HM3.out.mono H2.out.size))) HC.out HS.out HBB.out).mono ?_); rintro en w3 ⟨g, rfl, q1_, q2_, q3_, q4_⟩; have HP := Aside0.mk (St_first HG.out H1.out H2.out HM1.out HM2.out HM3.out M.out NL.out q1_ q2_ q3_); clear q1_ q2_ q3_ q4_ H1 H2 HG HM1 HM2 HM3) | ((with_reducible refine gate_dst (N := 9) rfl ?_); refine ev_var2 (y := .tmp 25) (cx := #[.pointer (some ⟨g, 0, none⟩), .pointer (some ⟨gm, 0, none⟩)]) (zc := #[.pointer none, .pointer none]) 50 (fun W => run_alloc_form _ _ rfl W) rfl rfl rfl rfl rfl (by kernel_rfl) (by simp [Value.oneCell']) rfl rfl ?_; intro gf w4 hg_ h1_ hb_; have hl_ := PS.Sk.lt (PS.Sk.start HP.out); have HF1 := Aside0.mk (show gf ≠ g from by omega); have HF2 := Aside0.mk (show gf ≠ gm from by omega); have HFB := Aside0.mk h1_; have n0_ := Aside0.mk (PS.St.below HP.out hb_); clear HP; have HP := n0_; clear n0_ h1_ hb_ hg_ hl_))
  have k0 : w4.cell? ⟨gf, 0, none⟩ = some (.pointer (some ⟨g, 0, none⟩)) := (blk_cell HFB.out 0).trans rfl
  have k1 : w4.cell? ⟨gf, 1, none⟩ = some (.pointer (some ⟨gm, 0, none⟩)) := (blk_cell HFB.out 1).trans rfl
  have O : Aside0 ((w4.alloc (.map #[] 0)).ownsMap Try.prog 5 (RV g gm) w4.heap.size 0 D0) := ⟨World.ownsMap_made _ _ _ _⟩
  have HB := Aside0.mk ((Below.refl w4.heap.size w4).alloc (Nat.le_refl _) (.map #[] 0))
  replace k0 : (w4.alloc (.map #[] 0)).cell? ⟨gf, 0, none⟩ = some (.pointer (some ⟨g, 0, none⟩)) := (blk_cell (blk_below HFB.out HB.out) 0).trans rfl
  replace k1 : (w4.alloc (.map #[] 0)).cell? ⟨gf, 1, none⟩ = some (.pointer (some ⟨gm, 0, none⟩)) := (blk_cell (blk_below HFB.out HB.out) 1).trans rfl
  go_upto_region 6 with (first | ((with_reducible refine gate_op (u := .insert 52 (.tmp 26) (.const (.int .u8 1)) (.tmp 31)) rfl ?_); refine ev_insert _ rfl _ _ _ 52 rfl 5 51 lawk Try.underlying52 (RV g gm) w4.heap.size 0 _ rfl O.out (by unfold maxLen; omega) _ (.agg (V1 g gm)) _ rfl rfl (keyOf_int_mk Try.underlying5 (by decide)) _ [] (RV_1 g gm) ?_; intro x0 o_ g_; have n0_ := Aside0.mk o_; have n1_ := Aside0.mk (HB.out.grown g_ HB.out.size (fun j hj => by cases hj; exact Nat.le_refl _)); clear O HB o_ g_; have O := n0_; have HB := n1_; clear n0_ n1_; have k0 : x0.cell? ⟨gf, 0, none⟩ = some (.pointer (some ⟨g, 0, none⟩)) := (blk_cell (blk_below HFB.out HB.out) 0).trans rfl; have k1 : x0.cell? ⟨gf, 1, none⟩ = some (.pointer (some ⟨gm, 0, none⟩)) := (blk_cell (blk_below HFB.out HB.out) 1).trans rfl) | ((with_reducible refine gate_op (u := .insert 52 (.tmp 26) (.const (.int .u8 2)) (.tmp 36)) rfl ?_); refine ev_insert _ rfl _ _ _ 52 rfl 5 51 lawk Try.underlying52 (RV g gm) w4.heap.size 1 _ rfl O.out (by unfold maxLen; omega) _ (.agg (V1 g gm)) _ rfl rfl (keyOf_int_mk Try.underlying5 (by decide)) _ [] (RV_1 g gm) ?_; intro x1 o_ g_; have n0_ := Aside0.mk o_; have n1_ := Aside0.mk (HB.out.grown g_ HB.out.size (fun j hj => by cases hj; exact Nat.le_refl _)); clear O HB o_ g_; have O := n0_; have HB := n1_; clear n0_ n1_; have k0 : x1.cell? ⟨gf, 0, none⟩ = some (.pointer (some ⟨g, 0, none⟩)) := (blk_cell (blk_below HFB.out HB.out) 0).trans rfl; have k1 : x1.cell? ⟨gf, 1, none⟩ = some (.pointer (some ⟨gm, 0, none⟩)) := (blk_cell (blk_below HFB.out HB.out) 1).trans rfl) | ((with_reducible refine gate_op (u := .insert 52 (.tmp 26) (.const (.int .u8 5)) (.tmp 41)) rfl ?_); refine ev_insert _ rfl _ _ _ 52 rfl 5 51 lawk Try.underlying52 (RV g gm) w4.heap.size 2 _ rfl O.out (by unfold maxLen; omega) _ (.agg (V5 g gm)) _ rfl rfl (keyOf_int_mk Try.underlying5 (by decide)) _ [] (RV_5 g gm) ?_; intro x2 o_ g_; have n0_ := Aside0.mk o_; have n1_ := Aside0.mk (HB.out.grown g_ HB.out.size (fun j hj => by cases hj; exact Nat.le_refl _)); clear O HB o_ g_; have O := n0_; have HB := n1_; clear n0_ n1_; have k0 : x2.cell? ⟨gf, 0, none⟩ = some (.pointer (some ⟨g, 0, none⟩)) := (blk_cell (blk_below HFB.out HB.out) 0).trans rfl; have k1 : x2.cell? ⟨gf, 1, none⟩ = some (.pointer (some ⟨gm, 0, none⟩)) := (blk_cell (blk_below HFB.out HB.out) 1).trans rfl) | ((with_reducible refine gate_op (u := .insert 52 (.tmp 26) (.const (.int .u8 15)) (.tmp 46)) rfl ?_); refine ev_insert _ rfl _ _ _ 52 rfl 5 51 lawk Try.underlying52 (RV g gm) w4.heap.size 3 _ rfl O.out (by unfold maxLen; omega) _ (.agg (V15 g gm)) _ rfl rfl (keyOf_int_mk Try.underlying5 (by decide)) _ [] (RV_15 g gm) ?_; intro x3 o_ g_; have n0_ := Aside0.mk o_; have n1_ := Aside0.mk (HB.out.grown g_ HB.out.size (fun j hj => by cases hj; exact Nat.le_refl _)); clear O HB o_ g_; have O := n0_; have HB := n1_; clear n0_ n1_; have k0 : x3.cell? ⟨gf, 0, none⟩ = some (.pointer (some ⟨g, 0, none⟩)) := (blk_cell (blk_below HFB.out HB.out) 0).trans rfl; have k1 : x3.cell? ⟨gf, 1, none⟩ = some (.pointer (some ⟨gm, 0, none⟩)) := (blk_cell (blk_below HFB.out HB.out) 1).trans rfl))
  clear k0 k1
  have HKW := Aside0.mk (show (Lit.int .u8 (2)).wf = true from by decide)
  have lk : (Instr.lookup 52 (.map (some w4.heap.size)) (.int .u8 (2)) true).run Try.prog x3 = .ok (.tuple #[.agg (V1 g gm), .bool true]) x3 := by
    have h := look_p O.out (2) HKW.out
    exact h
  have n0_ := Aside0.mk (PS.St.below HP.out HB.out)
  have n1_ := Aside0.mk (blk_below HFB.out HB.out)
  clear HP HFB HB O
  have HP := n0_
  have HFB := n1_
  clear n0_ n1_
  go_upto_region 7 with (first | ((with_reducible refine gate_dst (N := 11) rfl ?_); refine ev_var2 (y := .tmp 52) (cx := V1 g gm) (zc := VZ) 51 (fun W => run_alloc_pair _ _ rfl W) rfl rfl rfl rfl rfl (by kernel_rfl) (by simp [V1, V5, V15, VZ, Value.oneCell']) rfl rfl ?_; intro gv w5 hg_ h1_ hb_; have HVB := Aside0.mk h1_; have n0_ := Aside0.mk (PS.St.below HP.out hb_); have n1_ := Aside0.mk (blk_below HFB.out hb_); clear HP HFB; have HP := n0_; have HFB := n1_; clear n0_ n1_ h1_ hb_ hg_))
  clear lk hmm
  go_upto_region 9 with (fail)
  have kv : w5.cell? ⟨gv, 1, none⟩ = some (.func (.func 22) #[.agg #[.pointer (some ⟨g, 0, none⟩), .pointer (some ⟨gm, 0, none⟩)]] #[]) := (blk_cell HVB.out 1).trans rfl
  have n0_ := Aside0.mk (PS.Sk.start HP.out)
  clear HP
  have HP := n0_
  clear n0_
  obtain ⟨m0, hm0⟩ : ∃ z, z = ({ zeroM with code := 2 } : Msg) := ⟨_, rfl⟩
  rw [← hm0] at HP
  have HM0 := Aside0.mk hm0
  clear hm0 M NL
  go_upto_region 10 with (first | (go_at_call 22; (with_reducible refine (told_any HP.out).mono ?_); rintro en w6 ⟨rfl, hp_⟩; obtain ⟨cb, e_⟩ : ∃ z, z = toldR m0 ⟨l, false, 0⟩ := ⟨_, rfl⟩; rw [← e_] at hp_; obtain ⟨c9, m9⟩ := cb; have EB := Aside0.mk e_; clear e_; have n0_ := Aside0.mk hp_; clear HP hp_; have HP := n0_; clear n0_))
  clear kv
  replace HP : Aside0 (PS.Sk w5 w0 gr g gm w6 c9 m9) := HP
  have k0 : w6.cell? ⟨gf, 0, none⟩ = some (.pointer (some ⟨g, 0, none⟩)) := (blk_cell (PS.Sk.blk HP.out HFB.out HF1.out HF2.out) 0).trans rfl
  go_upto_region 11 with (first | (go_at_call 26; (with_reducible refine (PS.Sk.fin HP.out).mono ?_); rintro en x1 ⟨rfl, hp_⟩; obtain ⟨c10, ec_⟩ : ∃ z, z = c9.fin := ⟨_, rfl⟩; rw [← ec_] at hp_; have Ec10 := Aside0.mk ec_; clear ec_; have n0_ := Aside0.mk hp_; clear HP hp_; have HP := n0_; clear n0_))
  clear k0
  have k0 : x1.cell? ⟨gf, 0, none⟩ = some (.pointer (some ⟨g, 0, none⟩)) := (blk_cell (PS.Sk.blk HP.out HFB.out HF1.out HF2.out) 0).trans rfl
  go_upto_region 12 with (first | (go_at_call 27; (with_reducible refine (PS.Sk.err HP.out).mono ?_); rintro en x2 ⟨rfl, hp_⟩; have n0_ := Aside0.mk hp_; clear HP hp_; have HP := n0_; clear n0_))
  clear k0
  have n0_ := Aside0.mk HP.out.st
  clear HP HFB HVB
  have HP := n0_
  clear n0_
  have he1 : parse 1 2 l = if c10.e ≠ 0 then (zeroM, c10.e) else (m9, 0) := by
    have e2 : bodyR 1 2 { zeroM with code := 2 } (cu l) = (c9, m9) := by rw [EB.out, HM0.out]; rfl
    unfold parse
    rw [if_neg (by decide), if_neg (by decide), e2, Ec10.out]
  by_cases h9 : c10.e = 0
  · have ex_ : parse 1 2 l = (m9, 0) := by rw [he1, if_neg (fun h => h h9)]
    have EX := Aside0.mk ex_
    have g1 : (c10.e != 0) = false := by rw [h9]; rfl
    have g2 : (c10.e == 0) = true := by rw [h9]; rfl
    clear h9 ex_ he1
    obtain ⟨cx, h_, hz_, hm_⟩ := PS.St.held2 HP.out
    have H := Aside0.mk h_
    have HZ := Aside0.mk hz_
    have HM := Aside0.mk hm_
    have HB := Aside0.mk HP.out.b
    clear h_ hz_ hm_ HP
    go_wp2_with (first | ((with_reducible refine gate_dst (N := 71) rfl ?_); refine ev_load (x := .tmp 8) rfl rfl rfl H.out (i := 1) rfl (HZ.out) ?_) | ((with_reducible refine gate_op (u := .store 30 (.tmp 6) (.tmp 71)) rfl ?_); refine ev_store rfl rfl rfl rfl H.out (i := 0) rfl rfl (HM.out _ ⟨rfl, rfl, rfl, Kept.refl _ _⟩) ?_; intro x91 h3_ h4_; have HE := Aside0.mk (HM.out _ h4_); clear h4_; have n0_ := Aside0.mk (h3_); clear H; have H := n0_; clear n0_; clear h3_))
    refine bodyPost_ret (results_ct rfl _ _ gr 30 _ (0, 0) _ rfl (H.out.at 0 rfl) Try.underlying30 rfl (msg_info (HZ.out))) rfl (by rw [EX.out]; exact ⟨_, rfl, HE.out, H.out.b⟩)
  · have ex_ : parse 1 2 l = (zeroM, c10.e) := by rw [he1, if_pos h9]
    have EX := Aside0.mk ex_
    have g1 : (c10.e != 0) = true := by simpa using h9
    have g2 : (c10.e == 0) = false := by simpa using h9
    clear h9 ex_ he1
    have H := Aside0.mk (PS.St.held HP.out)
    clear HP
    go_wp2_with (first | ((with_reducible refine gate_dst (N := 69) rfl ?_); refine ev_build (zeroC) rfl (by go_simp; first | rfl | done) ?_; intro cx hcx_; have M := Aside0.mk (show ∀ W, IsMsg W cx _ from fun W => by rw [hcx_]; exact zero_is W); clear hcx_) | ((with_reducible refine gate_op (u := .store 30 (.tmp 6) (.tmp 69)) rfl ?_); refine ev_store rfl rfl rfl rfl H.out (i := 0) rfl (rfl) (M.out w0) ?_; intro x90 h3_ h4_; have n0_ := Aside0.mk (h3_); clear H; have H := n0_; clear n0_; clear h3_ h4_))
    refine bodyPost_ret (results_ct rfl _ _ gr 30 _ (0, 0) _ rfl (H.out.at 0 rfl) Try.underlying30 rfl (msg_info ((M.out w0).size))) rfl (by rw [EX.out]; exact ⟨_, rfl, M.out _, H.out.b⟩)
theorem parse_1_5 {A : Option Addr} {c : Nat} {l : List Int} {w0 : World} (hr : Kd.C (Kd.int .u8) w0 A l.length l) (hc : l.length ≤ c) (hs : l.length ≤ 1000000) (hb : isBytes l) :
    Calls Try.prog 13 #[.int .i64 1, .int .u8 5, .slice A l.length c] w0 fun en w' => ∃ cx, en = .returned (.tuple #[.agg cx, .int .i64 (parse 1 5 l).2]) ∧ IsMsg w' cx (parse 1 5 l).1 ∧ Below w0.heap.size w0 w' := by
  have HR := Aside0.mk hr
  have HC := Aside0.mk hc
  have HS := Aside0.mk hs
  have HBB := Aside0.mk hb
  clear hr hc hs hb
  have hmm := @run_makeMap Try.prog
  go_enter Try.func13, Try.ntmps13
  go_upto_region 3 with (first | ((with_reducible refine gate_dst (N := 6) rfl ?_); refine ev_alloc rfl rfl ?_; intro gr w1 hg_ h1_ h2_; have HG := Aside0.mk hg_; have H1 := Aside0.mk h1_; have H2 := Aside0.mk h2_; clear hg_ h1_ h2_))
  go_upto_region 4 with (first | ((with_reducible refine gate_dst (N := 22) rfl ?_); refine ev_build ((zeroC.setIfInBounds 0 (.int .u8 (5)))) rfl (by go_simp; first | rfl | done) ?_; intro cx hcx_; have M := Aside0.mk (show ∀ W, IsMsg W cx _ from fun W => by rw [hcx_]; exact (fun W => set_code (zero_is W) (v := 5) (by decide)) W); have NL := Aside0.mk (show NilL cx by rw [hcx_]; exact PS.zero_nil.set (by decide)); clear hcx_) | ((with_reducible refine gate_dst (N := 8) rfl ?_); refine ev_var (y := .tmp 22) rfl rfl rfl rfl rfl (M.out w0) rfl rfl ?_; intro gm w2 hg_ h1_ hb_; have HM1 := Aside0.mk hg_; have HM2 := Aside0.mk h1_; have HM3 := Aside0.mk hb_; clear h1_ hb_ hg_))
  go_upto_region 5 with (first | (go_at_call 20; (with_reducible refine (p_new A c l _ (Kd.C_below HR.out (H2.out.trans (HM3.out.mono H2.out.size))) HC.out HS.out HBB.out).mono ?_); rintro en w3 ⟨g, rfl, q1_, q2_, q3_, q4_⟩; have HP := Aside0.mk (St_first HG.out H1.out H2.out HM1.out HM2.out HM3.out M.out NL.out q1_ q2_ q3_); clear q1_ q2_ q3_ q4_ H1 H2 HG HM1 HM2 HM3) | ((with_reducible refine gate_dst (N := 9) rfl ?_); refine ev_var2 (y := .tmp 25) (cx := #[.pointer (some ⟨g, 0, none⟩), .pointer (some ⟨gm, 0, none⟩)]) (zc := #[.pointer none, .pointer none]) 50 (fun W => run_alloc_form _ _ rfl W) rfl rfl rfl rfl rfl (by kernel_rfl) (by simp [Value.oneCell']) rfl rfl ?_; intro gf w4 hg_ h1_ hb_; have hl_ := PS.Sk.lt (PS.Sk.start HP.out); have HF1 := Aside0.mk (show gf ≠ g from by omega); have HF2 := Aside0.mk (show gf ≠ gm from by omega); have HFB := Aside0.mk h1_; have n0_ := Aside0.mk (PS.St.below HP.out hb_); clear HP; have HP := n0_; clear n0_ h1_ hb_ hg_ hl_))
  have k0 : w4.cell? ⟨gf, 0, none⟩ = some (.pointer (some ⟨g, 0, none⟩)) := (blk_cell HFB.out 0).trans rfl
  have k1 : w4.cell? ⟨gf, 1, none⟩ = some (.pointer (some ⟨gm, 0, none⟩)) := (blk_cell HFB.out 1).trans rfl
  have O : Aside0 ((w4.alloc (.map #[] 0)).ownsMap Try.prog 5 (RV g gm) w4.heap.size 0 D0) := ⟨World.ownsMap_made _ _ _ _⟩
  have HB := Aside0.mk ((Below.refl w4.heap.size w4).alloc (Nat.le_refl _) (.map #[] 0))
  replace k0 : (w4.alloc (.map #[] 0)).cell? ⟨gf, 0, none⟩ = some (.pointer (some ⟨g, 0, none⟩)) := (blk_cell (blk_below HFB.out HB.out) 0).trans rfl
  replace k1 : (w4.alloc (.map #[] 0)).cell? ⟨gf, 1, none⟩ = some (.pointer (some ⟨gm, 0, none⟩)) := (blk_cell (blk_below HFB.out HB.out) 1).trans rfl
  go_upto_region 6 with (first | ((with_reducible refine gate_op (u := .insert 52 (.tmp 26) (.const (.int .u8 1)) (.tmp 31)) rfl ?_); refine ev_insert _ rfl _ _ _ 52 rfl 5 51 lawk Try.underlying52 (RV g gm) w4.heap.size 0 _ rfl O.out (by unfold maxLen; omega) _ (.agg (V1 g gm)) _ rfl rfl (keyOf_int_mk Try.underlying5 (by decide)) _ [] (RV_1 g gm) ?_; intro x0 o_ g_; have n0_ := Aside0.mk o_; have n1_ := Aside0.mk (HB.out.grown g_ HB.out.size (fun j hj => by cases hj; exact Nat.le_refl _)); clear O HB o_ g_; have O := n0_; have HB := n1_; clear n0_ n1_; have k0 : x0.cell? ⟨gf, 0, none⟩ = some (.pointer (some ⟨g, 0, none⟩)) := (blk_cell (blk_below HFB.out HB.out) 0).trans rfl; have k1 : x0.cell? ⟨gf, 1, none⟩ = some (.pointer (some ⟨gm, 0, none⟩)) := (blk_cell (blk_below HFB.out HB.out) 1).trans rfl) | ((with_reducible refine gate_op (u := .insert 52 (.tmp 26) (.const (.int .u8 2)) (.tmp 36)) rfl ?_); refine ev_insert _ rfl _ _ _ 52 rfl 5 51 lawk Try.underlying52 (RV g gm) w4.heap.size 1 _ rfl O.out (by unfold maxLen; omega) _ (.agg (V1 g gm)) _ rfl rfl (keyOf_int_mk Try.underlying5 (by decide)) _ [] (RV_1 g gm) ?_; intro x1 o_ g_; have n0_ := Aside0.mk o_; have n1_ := Aside0.mk (HB.out.grown g_ HB.out.size (fun j hj => by cases hj; exact Nat.le_refl _)); clear O HB o_ g_; have O := n0_; have HB := n1_; clear n0_ n1_; have k0 : x1.cell? ⟨gf, 0, none⟩ = some (.pointer (some ⟨g, 0, none⟩)) := (blk_cell (blk_below HFB.out HB.out) 0).trans rfl; have k1 : x1.cell? ⟨gf, 1, none⟩ = some (.pointer (some ⟨gm, 0, none⟩)) := (blk_cell (blk_below HFB.out HB.out) 1).trans rfl) | ((with_reducible refine gate_op (u := .insert 52 (.tmp 26) (.const (.int .u8 5)) (.tmp 41)) rfl ?_); refine ev_insert _ rfl _ _ _ 52 rfl 5 51 lawk Try.underlying52 (RV g gm) w4.heap.size 2 _ rfl O.out (by unfold maxLen; omega) _ (.agg (V5 g gm)) _ rfl rfl (keyOf_int_mk Try.underlying5 (by decide)) _ [] (RV_5 g gm) ?_; intro x2 o_ g_; have n0_ := Aside0.mk o_; have n1_ := Aside0.mk (HB.out.grown g_ HB.out.size (fun j hj => by cases hj; exact Nat.le_refl _)); clear O HB o_ g_; have O := n0_; have HB := n1_; clear n0_ n1_; have k0 : x2.cell? ⟨gf, 0, none⟩ = some (.pointer (some ⟨g, 0, none⟩)) := (blk_cell (blk_below HFB.out HB.out) 0).trans rfl; have k1 : x2.cell? ⟨gf, 1, none⟩ = some (.pointer (some ⟨gm, 0, none⟩)) := (blk_cell (blk_below HFB.out HB.out) 1).trans rfl) | ((with_reducible refine gate_op (u := .insert 52 (.tmp 26) (.const (.int .u8 15)) (.tmp 46)) rfl ?_); refine ev_insert _ rfl _ _ _ 52 rfl 5 51 lawk Try.underlying52 (RV g gm) w4.heap.size 3 _ rfl O.out (by unfold maxLen; omega) _ (.agg (V15 g gm)) _ rfl rfl (keyOf_int_mk Try.underlying5 (by decide)) _ [] (RV_15 g gm) ?_; intro x3 o_ g_; have n0_ := Aside0.mk o_; have n1_ := Aside0.mk (HB.out.grown g_ HB.out.size (fun j hj => by cases hj; exact Nat.le_refl _)); clear O HB o_ g_; have O := n0_; have HB := n1_; clear n0_ n1_; have k0 : x3.cell? ⟨gf, 0, none⟩ = some (.pointer (some ⟨g, 0, none⟩)) := (blk_cell (blk_below HFB.out HB.out) 0).trans rfl; have k1 : x3.cell? ⟨gf, 1, none⟩ = some (.pointer (some ⟨gm, 0, none⟩)) := (blk_cell (blk_below HFB.out HB.out) 1).trans rfl))
  clear k0 k1
  have HKW := Aside0.mk (show (Lit.int .u8 (5)).wf = true from by decide)
  have lk : (Instr.lookup 52 (.map (some w4.heap.size)) (.int .u8 (5)) true).run Try.prog x3 = .ok (.tuple #[.agg (V5 g gm), .bool true]) x3 := by
    have h := look_p O.out (5) HKW.out
    exact h
  have n0_ := Aside0.mk (PS.St.below HP.out HB.out)
  have n1_ := Aside0.mk (blk_below HFB.out HB.out)
  clear HP HFB HB O
  have HP := n0_
  have HFB := n1_
  clear n0_ n1_
  go_upto_region 7 with (first | ((with_reducible refine gate_dst (N := 11) rfl ?_); refine ev_var2 (y := .tmp 52) (cx := V5 g gm) (zc := VZ) 51 (fun W => run_alloc_pair _ _ rfl W) rfl rfl rfl rfl rfl (by kernel_rfl) (by simp [V1, V5, V15, VZ, Value.oneCell']) rfl rfl ?_; intro gv w5 hg_ h1_ hb_; have HVB := Aside0.mk h1_; have n0_ := Aside0.mk (PS.St.below HP.out hb_); have n1_ := Aside0.mk (blk_below HFB.out hb_); clear HP HFB; have HP := n0_; have HFB := n1_; clear n0_ n1_ h1_ hb_ hg_))
  clear lk hmm
  go_upto_region 9 with (fail)
  have kv : w5.cell? ⟨gv, 1, none⟩ = some (.func (.func 23) #[.agg #[.pointer (some ⟨g, 0, none⟩), .pointer (some ⟨gm, 0, none⟩)]] #[]) := (blk_cell HVB.out 1).trans rfl
  have n0_ := Aside0.mk (PS.Sk.start HP.out)
  clear HP
  have HP := n0_
  clear n0_
  obtain ⟨m0, hm0⟩ : ∃ z, z = ({ zeroM with code := 5 } : Msg) := ⟨_, rfl⟩
  rw [← hm0] at HP
  have HM0 := Aside0.mk hm0
  clear hm0 M NL
  go_upto_region 10 with (first | (go_at_call 23; (with_reducible refine (sets_any HP.out).mono ?_); rintro en w6 ⟨rfl, hp_⟩; obtain ⟨cb, e_⟩ : ∃ z, z = setsR m0 ⟨l, false, 0⟩ := ⟨_, rfl⟩; rw [← e_] at hp_; obtain ⟨c9, m9⟩ := cb; have EB := Aside0.mk e_; clear e_; have n0_ := Aside0.mk hp_; clear HP hp_; have HP := n0_; clear n0_))
  clear kv
  replace HP : Aside0 (PS.Sk w5 w0 gr g gm w6 c9 m9) := HP
  have k0 : w6.cell? ⟨gf, 0, none⟩ = some (.pointer (some ⟨g, 0, none⟩)) := (blk_cell (PS.Sk.blk HP.out HFB.out HF1.out HF2.out) 0).trans rfl
  go_upto_region 11 with (first | (go_at_call 26; (with_reducible refine (PS.Sk.fin HP.out).mono ?_); rintro en x1 ⟨rfl, hp_⟩; obtain ⟨c10, ec_⟩ : ∃ z, z = c9.fin := ⟨_, rfl⟩; rw [← ec_] at hp_; have Ec10 := Aside0.mk ec_; clear ec_; have n0_ := Aside0.mk hp_; clear HP hp_; have HP := n0_; clear n0_))
  clear k0
  have k0 : x1.cell? ⟨gf, 0, none⟩ = some (.pointer (some ⟨g, 0, none⟩)) := (blk_cell (PS.Sk.blk HP.out HFB.out HF1.out HF2.out) 0).trans rfl
  go_upto_region 12 with (first | (go_at_call 27; (with_reducible refine (PS.Sk.err HP.out).mono ?_); rintro en x2 ⟨rfl, hp_⟩; have n0_ := Aside0.mk hp_; clear HP hp_; have HP := n0_; clear n0_))
  clear k0
  have n0_ := Aside0.mk HP.out.st
  clear HP HFB HVB
  have HP := n0_
  clear n0_
  have he1 : parse 1 5 l = if c10.e ≠ 0 then (zeroM, c10.e) else (m9, 0) := by
    have e2 : bodyR 1 5 { zeroM with code := 5 } (cu l) = (c9, m9) := by rw [EB.out, HM0.out]; rfl
    unfold parse
    rw [if_neg (by decide), if_neg (by decide), e2, Ec10.out]
  by_cases h9 : c10.e = 0
  · have ex_ : parse 1 5 l = (m9, 0) := by rw [he1, if_neg (fun h => h h9)]
    have EX := Aside0.mk ex_
    have g1 : (c10.e != 0) = false := by rw [h9]; rfl
    have g2 : (c10.e == 0) = true := by rw [h9]; rfl
    clear h9 ex_ he1
    obtain ⟨cx, h_, hz_, hm_⟩ := PS.St.held2 HP.out
    have H := Aside0.mk h_
    have HZ := Aside0.mk hz_
    have HM := Aside0.mk hm_
    have HB := Aside0.mk HP.out.b
    clear h_ hz_ hm_ HP
    go_wp2_with (first | ((with_reducible refine gate_dst (N := 71) rfl ?_); refine ev_load (x := .tmp 8) rfl rfl rfl H.out (i := 1) rfl (HZ.out) ?_) | ((with_reducible refine gate_op (u := .store 30 (.tmp 6) (.tmp 71)) rfl ?_); refine ev_store rfl rfl rfl rfl H.out (i := 0) rfl rfl (HM.out _ ⟨rfl, rfl, rfl, Kept.refl _ _⟩) ?_; intro x91 h3_ h4_; have HE := Aside0.mk (HM.out _ h4_); clear h4_; have n0_ := Aside0.mk (h3_); clear H; have H := n0_; clear n0_; clear h3_))
    refine bodyPost_ret (results_ct rfl _ _ gr 30 _ (0, 0) _ rfl (H.out.at 0 rfl) Try.underlying30 rfl (msg_info (HZ.out))) rfl (by rw [EX.out]; exact ⟨_, rfl, HE.out, H.out.b⟩)
  · have ex_ : parse 1 5 l = (zeroM, c10.e) := by rw [he1, if_pos h9]
    have EX := Aside0.mk ex_
    have g1 : (c10.e != 0) = true := by simpa using h9
    have g2 : (c10.e == 0) = false := by simpa using h9
    clear h9 ex_ he1
    have H := Aside0.mk (PS.St.held HP.out)
    clear HP
    go_wp2_with (first | ((with_reducible refine gate_dst (N := 69) rfl ?_); refine ev_build (zeroC) rfl (by go_simp; first | rfl | done) ?_; intro cx hcx_; have M := Aside0.mk (show ∀ W, IsMsg W cx _ from fun W => by rw [hcx_]; exact zero_is W); clear hcx_) | ((with_reducible refine gate_op (u := .store 30 (.tmp 6) (.tmp 69)) rfl ?_); refine ev_store rfl rfl rfl rfl H.out (i := 0) rfl (rfl) (M.out w0) ?_; intro x90 h3_ h4_; have n0_ := Aside0.mk (h3_); clear H; have H := n0_; clear n0_; clear h3_ h4_))
    refine bodyPost_ret (results_ct rfl _ _ gr 30 _ (0, 0) _ rfl (H.out.at 0 rfl) Try.underlying30 rfl (msg_info ((M.out w0).size))) rfl (by rw [EX.out]; exact ⟨_, rfl, M.out _, H.out.b⟩)
theorem parse_1_15 {A : Option Addr} {c : Nat} {l : List Int} {w0 : World} (hr : Kd.C (Kd.int .u8) w0 A l.length l) (hc : l.length ≤ c) (hs : l.length ≤ 1000000) (hb : isBytes l) :
    Calls Try.prog 13 #[.int .i64 1, .int .u8 15, .slice A l.length c] w0 fun en w' => ∃ cx, en = .returned (.tuple #[.agg cx, .int .i64 (parse 1 15 l).2]) ∧ IsMsg w' cx (parse 1 15 l).1 ∧ Below w0.heap.size w0 w' := by
  have HR := Aside0.mk hr
  have HC := Aside0.mk hc
  have HS := Aside0.mk hs
  have HBB := Aside0.mk hb
  clear hr hc hs hb
  have hmm := @run_makeMap Try.prog
  go_enter Try.func13, Try.ntmps13
  go_upto_region 3 with (first | ((with_reducible refine gate_dst (N := 6) rfl ?_); refine ev_alloc rfl rfl ?_; intro gr w1 hg_ h1_ h2_; have HG := Aside0.mk hg_; have H1 := Aside0.mk h1_; have H2 := Aside0.mk h2_; clear hg_ h1_ h2_))
  go_upto_region 4 with (first | ((with_reducible refine gate_dst (N := 22) rfl ?_); refine ev_build ((zeroC.setIfInBounds 0 (.int .u8 (15)))) rfl (by go_simp; first | rfl | done) ?_; intro cx hcx_; have M := Aside0.mk (show ∀ W, IsMsg W cx _ from fun W => by rw [hcx_]; exact (fun W => set_code (zero_is W) (v := 15) (by decide)) W); have NL := Aside0.mk (show NilL cx by rw [hcx_]; exact PS.zero_nil.set (by decide)); clear hcx_) | ((with_reducible refine gate_dst (N := 8) rfl ?_); refine ev_var (y := .tmp 22) rfl rfl rfl rfl rfl (M.out w0) rfl rfl ?_; intro gm w2 hg_ h1_ hb_; have HM1 := Aside0.mk hg_; have HM2 := Aside0.mk h1_; have HM3 := Aside0.mk hb_; clear h1_ hb_ hg_))
  go_upto_region 5 with (first | (go_at_call 20; (with_reducible refine (p_new A c l _ (Kd.C_below HR.out (H2.out.trans (HM3.out.mono H2.out.size))) HC.out HS.out HBB.out).mono ?_); rintro en w3 ⟨g, rfl, q1_, q2_, q3_, q4_⟩; have HP := Aside0.mk (St_first HG.out H1.out H2.out HM1.out HM2.out HM3.out M.out NL.out q1_ q2_ q3_); clear q1_ q2_ q3_ q4_ H1 H2 HG HM1 HM2 HM3) | ((with_reducible refine gate_dst (N := 9) rfl ?_); refine ev_var2 (y := .tmp 25) (cx := #[.pointer (some ⟨g, 0, none⟩), .pointer (some ⟨gm, 0, none⟩)]) (zc := #[.pointer none, .pointer none]) 50 (fun W => run_alloc_form _ _ rfl W) rfl rfl rfl rfl rfl (by kernel_rfl) (by simp [Value.oneCell']) rfl rfl ?_; intro gf w4 hg_ h1_ hb_; have hl_ := PS.Sk.lt (PS.Sk.start HP.out); have HF1 := Aside0.mk (show gf ≠ g from by omega); have HF2 := Aside0.mk (show gf ≠ gm from by omega); have HFB := Aside0.mk h1_; have n0_ := Aside0.mk (PS.St.below HP.out hb_); clear HP; have HP := n0_; clear n0_ h1_ hb_ hg_ hl_))
  have k0 : w4.cell? ⟨gf, 0, none⟩ = some (.pointer (some ⟨g, 0, none⟩)) := (blk_cell HFB.out 0).trans rfl
  have k1 : w4.cell? ⟨gf, 1, none⟩ = some (.pointer (some ⟨gm, 0, none⟩)) := (blk_cell HFB.out 1).trans rfl
  have O : Aside0 ((w4.alloc (.map #[] 0)).ownsMap Try.prog 5 (RV g gm) w4.heap.size 0 D0) := ⟨World.ownsMap_made _ _ _ _⟩
  have HB := Aside0.mk ((Below.refl w4.heap.size w4).alloc (Nat.le_refl _) (.map #[] 0))
  replace k0 : (w4.alloc (.map #[] 0)).cell? ⟨gf, 0, none⟩ = some (.pointer (some ⟨g, 0, none⟩)) := (blk_cell (blk_below HFB.out HB.out) 0).trans rfl
  replace k1 : (w4.alloc (.map #[] 0)).cell? ⟨gf, 1, none⟩ = some (.pointer (some ⟨gm, 0, none⟩)) := (blk_cell (blk_below HFB.out HB.out) 1).trans rfl
  go_upto_region 6 with (first | ((with_reducible refine gate_op (u := .insert 52 (.tmp 26) (.const (.int .u8 1)) (.tmp 31)) rfl ?_); refine ev_insert _ rfl _ _ _ 52 rfl 5 51 lawk Try.underlying52 (RV g gm) w4.heap.size 0 _ rfl O.out (by unfold maxLen; omega) _ (.agg (V1 g gm)) _ rfl rfl (keyOf_int_mk Try.underlying5 (by decide)) _ [] (RV_1 g gm) ?_; intro x0 o_ g_; have n0_ := Aside0.mk o_; have n1_ := Aside0.mk (HB.out.grown g_ HB.out.size (fun j hj => by cases hj; exact Nat.le_refl _)); clear O HB o_ g_; have O := n0_; have HB := n1_; clear n0_ n1_; have k0 : x0.cell? ⟨gf, 0, none⟩ = some (.pointer (some ⟨g, 0, none⟩)) := (blk_cell (blk_below HFB.out HB.out) 0).trans rfl; have k1 : x0.cell? ⟨gf, 1, none⟩ = some (.pointer (some ⟨gm, 0, none⟩)) := (blk_cell (blk_below HFB.out HB.out) 1).trans rfl) | ((with_reducible refine gate_op (u := .insert 52 (.tmp 26) (.const (.int .u8 2)) (.tmp 36)) rfl ?_); refine ev_insert _ rfl _ _ _ 52 rfl 5 51 lawk Try.underlying52 (RV g gm) w4.heap.size 1 _ rfl O.out (by unfold maxLen; omega) _ (.agg (V1 g gm)) _ rfl rfl (keyOf_int_mk Try.underlying5 (by decide)) _ [] (RV_1 g gm) ?_; intro x1 o_ g_; have n0_ := Aside0.mk o_; have n1_ := Aside0.mk (HB.out.grown g_ HB.out.size (fun j hj => by cases hj; exact Nat.le_refl _)); clear O HB o_ g_; have O := n0_; have HB := n1_; clear n0_ n1_; have k0 : x1.cell? ⟨gf, 0, none⟩ = some (.pointer (some ⟨g, 0, none⟩)) := (blk_cell (blk_below HFB.out HB.out) 0).trans rfl; have k1 : x1.cell? ⟨gf, 1, none⟩ = some (.pointer (some ⟨gm, 0, none⟩)) := (blk_cell (blk_below HFB.out HB.out) 1).trans rfl) | ((with_reducible refine gate_op (u := .insert 52 (.tmp 26) (.const (.int .u8 5)) (.tmp 41)) rfl ?_); refine ev_insert _ rfl _ _ _ 52 rfl 5 51 lawk Try.underlying52 (RV g gm) w4.heap.size 2 _ rfl O.out (by unfold maxLen; omega) _ (.agg (V5 g gm)) _ rfl rfl (keyOf_int_mk Try.underlying5 (by decide)) _ [] (RV_5 g gm) ?_; intro x2 o_ g_; have n0_ := Aside0.mk o_; have n1_ := Aside0.mk (HB.out.grown g_ HB.out.size (fun j hj => by cases hj; exact Nat.le_refl _)); clear O HB o_ g_; have O := n0_; have HB := n1_; clear n0_ n1_; have k0 : x2.cell? ⟨gf, 0, none⟩ = some (.pointer (some ⟨g, 0, none⟩)) := (blk_cell (blk_below HFB.out HB.out) 0).trans rfl; have k1 : x2.cell? ⟨gf, 1, none⟩ = some (.pointer (some ⟨gm, 0, none⟩)) := (blk_cell (blk_below HFB.out HB.out) 1).trans rfl) | ((with_reducible refine gate_op (u := .insert 52 (.tmp 26) (.const (.int .u8 15)) (.tmp 46)) rfl ?_); refine ev_insert _ rfl _ _ _ 52 rfl 5 51 lawk Try.underlying52 (RV g gm) w4.heap.size 3 _ rfl O.out (by unfold maxLen; omega) _ (.agg (V15 g gm)) _ rfl rfl (keyOf_int_mk Try.underlying5 (by decide)) _ [] (RV_15 g gm) ?_; intro x3 o_ g_; have n0_ := Aside0.mk o_; have n1_ := Aside0.mk (HB.out.grown g_ HB.out.size (fun j hj => by cases hj; exact Nat.le_refl _)); clear O HB o_ g_; have O := n0_; have HB := n1_; clear n0_ n1_; have k0 : x3.cell? ⟨gf, 0, none⟩ = some (.pointer (some ⟨g, 0, none⟩)) := (blk_cell (blk_below HFB.out HB.out) 0).trans rfl; have k1 : x3.cell? ⟨gf, 1, none⟩ = some (.pointer (some ⟨gm, 0, none⟩)) := (blk_cell (blk_below HFB.out HB.out) 1).trans rfl))
  clear k0 k1
  have HKW := Aside0.mk (show (Lit.int .u8 (15)).wf = true from by decide)
  have lk : (Instr.lookup 52 (.map (some w4.heap.size)) (.int .u8 (15)) true).run Try.prog x3 = .ok (.tuple #[.agg (V15 g gm), .bool true]) x3 := by
    have h := look_p O.out (15) HKW.out
    exact h
  have n0_ := Aside0.mk (PS.St.below HP.out HB.out)
  have n1_ := Aside0.mk (blk_below HFB.out HB.out)
  clear HP HFB HB O
  have HP := n0_
  have HFB := n1_
  clear n0_ n1_
  go_upto_region 7 with (first | ((with_reducible refine gate_dst (N := 11) rfl ?_); refine ev_var2 (y := .tmp 52) (cx := V15 g gm) (zc := VZ) 51 (fun W => run_alloc_pair _ _ rfl W) rfl rfl rfl rfl rfl (by kernel_rfl) (by simp [V1, V5, V15, VZ, Value.oneCell']) rfl rfl ?_; intro gv w5 hg_ h1_ hb_; have HVB := Aside0.mk h1_; have n0_ := Aside0.mk (PS.St.below HP.out hb_); have n1_ := Aside0.mk (blk_below HFB.out hb_); clear HP HFB; have HP := n0_; have HFB := n1_; clear n0_ n1_ h1_ hb_ hg_))
  clear lk hmm
  go_upto_region 9 with (fail)
  have kv : w5.cell? ⟨gv, 1, none⟩ = some (.func (.func 25) #[.agg #[.pointer (some ⟨g, 0, none⟩), .pointer (some ⟨gm, 0, none⟩)]] #[]) := (blk_cell HVB.out 1).trans rfl
  have n0_ := Aside0.mk (PS.Sk.start HP.out)
  clear HP
  have HP := n0_
  clear n0_
  obtain ⟨m0, hm0⟩ : ∃ z, z = ({ zeroM with code := 15 } : Msg) := ⟨_, rfl⟩
  rw [← hm0] at HP
  have HM0 := Aside0.mk hm0
  clear hm0 M NL
  go_upto_region 10 with (first | (go_at_call 25; (with_reducible refine (done_any HP.out).mono ?_); rintro en w6 ⟨rfl, hp_⟩; obtain ⟨cb, e_⟩ : ∃ z, z = spanR 1968 m0 ⟨l, false, 0⟩ := ⟨_, rfl⟩; rw [← e_] at hp_; obtain ⟨c9, m9⟩ := cb; have EB := Aside0.mk e_; clear e_; have n0_ := Aside0.mk hp_; clear HP hp_; have HP := n0_; clear n0_))
  clear kv
  replace HP : Aside0 (PS.Sk w5 w0 gr g gm w6 c9 m9) := HP
  have k0 : w6.cell? ⟨gf, 0, none⟩ = some (.pointer (some ⟨g, 0, none⟩)) := (blk_cell (PS.Sk.blk HP.out HFB.out HF1.out HF2.out) 0).trans rfl
  go_upto_region 11 with (first | (go_at_call 26; (with_reducible refine (PS.Sk.fin HP.out).mono ?_); rintro en x1 ⟨rfl, hp_⟩; obtain ⟨c10, ec_⟩ : ∃ z, z = c9.fin := ⟨_, rfl⟩; rw [← ec_] at hp_; have Ec10 := Aside0.mk ec_; clear ec_; have n0_ := Aside0.mk hp_; clear HP hp_; have HP := n0_; clear n0_))
  clear k0
  have k0 : x1.cell? ⟨gf, 0, none⟩ = some (.pointer (some ⟨g, 0, none⟩)) := (blk_cell (PS.Sk.blk HP.out HFB.out HF1.out HF2.out) 0).trans rfl
  go_upto_region 12 with (first | (go_at_call 27; (with_reducible refine (PS.Sk.err HP.out).mono ?_); rintro en x2 ⟨rfl, hp_⟩; have n0_ := Aside0.mk hp_; clear HP hp_; have HP := n0_; clear n0_))
  clear k0
  have n0_ := Aside0.mk HP.out.st
  clear HP HFB HVB
  have HP := n0_
  clear n0_
  have he1 : parse 1 15 l = if c10.e ≠ 0 then (zeroM, c10.e) else (m9, 0) := by
    have e2 : bodyR 1 15 { zeroM with code := 15 } (cu l) = (c9, m9) := by rw [EB.out, HM0.out]; rfl
    unfold parse
    rw [if_neg (by decide), if_neg (by decide), e2, Ec10.out]
  by_cases h9 : c10.e = 0
  · have ex_ : parse 1 15 l = (m9, 0) := by rw [he1, if_neg (fun h => h h9)]
    have EX := Aside0.mk ex_
    have g1 : (c10.e != 0) = false := by rw [h9]; rfl
    have g2 : (c10.e == 0) = true := by rw [h9]; rfl
    clear h9 ex_ he1
    obtain ⟨cx, h_, hz_, hm_⟩ := PS.St.held2 HP.out
    have H := Aside0.mk h_
    have HZ := Aside0.mk hz_
    have HM := Aside0.mk hm_
    have HB := Aside0.mk HP.out.b
    clear h_ hz_ hm_ HP
    go_wp2_with (first | ((with_reducible refine gate_dst (N := 71) rfl ?_); refine ev_load (x := .tmp 8) rfl rfl rfl H.out (i := 1) rfl (HZ.out) ?_) | ((with_reducible refine gate_op (u := .store 30 (.tmp 6) (.tmp 71)) rfl ?_); refine ev_store rfl rfl rfl rfl H.out (i := 0) rfl rfl (HM.out _ ⟨rfl, rfl, rfl, Kept.refl _ _⟩) ?_; intro x91 h3_ h4_; have HE := Aside0.mk (HM.out _ h4_); clear h4_; have n0_ := Aside0.mk (h3_); clear H; have H := n0_; clear n0_; clear h3_))
    refine bodyPost_ret (results_ct rfl _ _ gr 30 _ (0, 0) _ rfl (H.out.at 0 rfl) Try.underlying30 rfl (msg_info (HZ.out))) rfl (by rw [EX.out]; exact ⟨_, rfl, HE.out, H.out.b⟩)
  · have ex_ : parse 1 15 l = (zeroM, c10.e) := by rw [he1, if_pos h9]
    have EX := Aside0.mk ex_
    have g1 : (c10.e != 0) = true := by simpa using h9
    have g2 : (c10.e == 0) = false := by simpa using h9
    clear h9 ex_ he1
    have H := Aside0.mk (PS.St.held HP.out)
    clear HP
    go_wp2_with (first | ((with_reducible refine gate_dst (N := 69) rfl ?_); refine ev_build (zeroC) rfl (by go_simp; first | rfl | done) ?_; intro cx hcx_; have M := Aside0.mk (show ∀ W, IsMsg W cx _ from fun W => by rw [hcx_]; exact zero_is W); clear hcx_) | ((with_reducible refine gate_op (u := .store 30 (.tmp 6) (.tmp 69)) rfl ?_); refine ev_store rfl rfl rfl rfl H.out (i := 0) rfl (rfl) (M.out w0) ?_; intro x90 h3_ h4_; have n0_ := Aside0.mk (h3_); clear H; have H := n0_; clear n0_; clear h3_ h4_))
    refine bodyPost_ret (results_ct rfl _ _ gr 30 _ (0, 0) _ rfl (H.out.at 0 rfl) Try.underlying30 rfl (msg_info ((M.out w0).size))) rfl (by rw [EX.out]; exact ⟨_, rfl, M.out _, H.out.b⟩)
theorem parse_any {dir code : Int} {A : Option Addr} {c : Nat} {l : List Int} {w0 : World} (hr : Kd.C (Kd.int .u8) w0 A l.length l) (hc : l.length ≤ c) (hs : l.length ≤ 1000000) (hb : isBytes l) (hcd : 0 ≤ code ∧ code < 256) :
    Calls Try.prog 13 #[.int .i64 dir, .int .u8 code, .slice A l.length c] w0 fun en w' => ∃ cx, en = .returned (.tuple #[.agg cx, .int .i64 (parse dir code l).2]) ∧ IsMsg w' cx (parse dir code l).1 ∧ Below w0.heap.size w0 w' := by
  by_cases h0 : dir = 0
  · subst h0
    by_cases k1 : code = 1
    · subst k1; exact parse_0_1 hr hc hs hb
    by_cases k2 : code = 2
    · subst k2; exact parse_0_2 hr hc hs hb
    by_cases k5 : code = 5
    · subst k5; exact parse_0_5 hr hc hs hb
    by_cases k15 : code = 15
    · subst k15; exact parse_0_15 hr hc hs hb
    have e : parse 0 code l = (zeroM, 4) := by unfold parse; rw [if_neg (by decide), if_pos (by omega)]
    rw [e]; exact parse_no0 hr hc hs hb hcd (by omega)
  by_cases h1 : dir = 1
  · subst h1
    by_cases k1 : code = 1
    · subst k1; exact parse_1_1 hr hc hs hb
    by_cases k2 : code = 2
    · subst k2; exact parse_1_2 hr hc hs hb
    by_cases k5 : code = 5
    · subst k5; exact parse_1_5 hr hc hs hb
    by_cases k15 : code = 15
    · subst k15; exact parse_1_15 hr hc hs hb
    have e : parse 1 code l = (zeroM, 4) := by unfold parse; rw [if_neg (by decide), if_pos (by omega)]
    rw [e]; exact parse_no1 hr hc hs hb hcd (by omega)
  have e : parse dir code l = (zeroM, 1) := by unfold parse; rw [if_pos ⟨h0, h1⟩]
  rw [e]; exact parse_dir hr hc hs hb h0 h1
end Go.Proofs.Ytggiobdjepgkfaa.Coil
end
section
namespace Go.Proofs.Ytggiobdjepgkfaa.QS
open Go.RowKit Go.Proofs.Ytggiobdjepgkfaa.P Go.Proofs.Ytggiobdjepgkfaa.E Go.Proofs.Ytggiobdjepgkfaa.Cur Go.Proofs.Ytggiobdjepgkfaa.RCur Go.Proofs.Ytggiobdjepgkfaa.Cu Go.Proofs.Ytggiobdjepgkfaa.Same Go.Proofs.YtggiobdjepgkfaaW.PrintWords Go.Proofs.YtggiobdjepgkfaaW.PrintLast Go.Proofs.YtggiobdjepgkfaaW.PrintMore
structure St (w0 : World) (gr g gm : Nat) (w : World) (c : Cu) (m : Msg) : Prop where
  b : Below w0.heap.size w0 w
  cur : QAt w0.heap.size w g c
  cx : ∃ cx, w.heap[gm]? = some (.cells cx 30 (0, 0)) ∧ ∀ W', Kept w W' (fun k => k = g ∨ k = gm ∨ k = gr) → IsMsg W' cx m
  res : w.heap[gr]? = some (.cells zeroC 30 (0, 0))
  h1 : w0.heap.size ≤ g ∧ w0.heap.size ≤ gm ∧ w0.heap.size ≤ gr
  h2 : gm ≠ g ∧ gr ≠ g ∧ gr ≠ gm
  nl : ∃ cx, w.heap[gm]? = some (.cells cx 30 (0, 0)) ∧ NilL cx
section
variable {w0 w w' : World} {gr g gm : Nat} {c c' : Cu} {m m' : Msg}
theorem St.upd (h : St w0 gr g gm w c m) (k : Upd g w w') (hc : QAt w0.heap.size w' g c') : St w0 gr g gm w' c' m := by
  obtain ⟨cx, a1, a2⟩ := h.cx
  refine ⟨h.b.trans (k.below h.h1.1 h.b.size), hc, ⟨cx, blk_kept a1 k.kept h.h2.1, fun W' hk => a2 W' ((k.kept.mono fun j hj => .inl hj).then_ hk (fun j hj => .inl hj))⟩, blk_kept h.res k.kept h.h2.2.1, h.h1, h.h2, by obtain ⟨cy, n1, n2⟩ := h.nl; exact ⟨cy, blk_kept n1 k.kept h.h2.1, n2⟩⟩
theorem St.good (h : St w0 gr g gm w c m) : c.good := by
  exact QAt.good h.cur
theorem St.msg (h : St w0 gr g gm w c m) : goodM m := by
  obtain ⟨cx, a1, a2⟩ := h.cx
  exact (a2 w (Kept.refl _ _)).good
theorem St.below (h : St w0 gr g gm w c m) (hb : Below w.heap.size w w') : St w0 gr g gm w' c m := by
  obtain ⟨cx, a1, a2⟩ := h.cx
  refine ⟨h.b.trans (hb.mono h.b.size), ?_, ⟨cx, blk_below a1 hb, fun W' hk => a2 W' ((Kept.of_below hb _).then_ hk (fun j hj => .inl hj))⟩, blk_below h.res hb, h.h1, h.h2, by obtain ⟨cy, n1, n2⟩ := h.nl; exact ⟨cy, blk_below n1 hb, n2⟩⟩
  exact h.cur.on (S := fun _ => False) (Kept.of_below hb _) (fun _ h => h.elim) (fun h => h)
theorem St.byte (h : St w0 gr g gm w c m) : Calls Try.prog 29 #[.pointer (some ⟨g, 0, none⟩)] w fun en w' => en = .returned (.int .u8 c.byteV) ∧ St w0 gr g gm w' c.byteS m := by
  have hc := h.cur
  refine (q_byte hc).mono ?_
  rintro en w' ⟨rfl, b1, b2⟩
  exact ⟨rfl, h.upd b2 b1⟩
theorem St.bytes (h : St w0 gr g gm w c m) (n : Int) : Calls Try.prog 31 #[.pointer (some ⟨g, 0, none⟩), .int .i64 n] w fun en w' => ∃ A' c', en = .returned (.slice A' (c.bytesV n).length c') ∧ (c.bytesV n).length ≤ c' ∧ (∀ W', Kept w' W' (fun k => k = g ∨ k = gm ∨ k = gr) → Kd.C (Kd.int .u8) W' A' (c.bytesV n).length (c.bytesV n)) ∧ St w0 gr g gm w' (c.bytesS n) m := by
  obtain ⟨cx, a1, a2⟩ := h.cx
  have lm := blk_lt a1
  have lr := blk_lt h.res
  have hc := h.cur
  refine (q_bytes hc n).mono ?_
  rintro en w' ⟨A', c', rfl, b1, b2, b3, b4⟩
  refine ⟨A', c', rfl, b1, fun W' hk => (b2.on (hk.mono fun j hj => ?_)).now, h.upd b4 b3⟩
  have := h.h1
  rcases hj with rfl | rfl | rfl <;> exact .inr (by omega)
theorem St.word (h : St w0 gr g gm w c m) : Calls Try.prog 32 #[.pointer (some ⟨g, 0, none⟩)] w fun en w' => en = .returned (.int .u16 c.wordV) ∧ St w0 gr g gm w' c.wordS m := by
  have hc := h.cur
  refine (q_word hc).mono ?_
  rintro en w' ⟨rfl, b1, b2⟩
  exact ⟨rfl, h.upd b2 b1⟩
theorem St.need (h : St w0 gr g gm w c m) (ok : Bool) (f : Int) : Calls Try.prog 30 #[.pointer (some ⟨g, 0, none⟩), .bool ok, .int .i64 f] w fun en w' => en = .returned (.tuple #[]) ∧ St w0 gr g gm w' (c.need ok f) m := by
  have hc := h.cur
  refine (q_need hc ok f).mono ?_
  rintro en w' ⟨rfl, b1, b2⟩
  exact ⟨rfl, h.upd b2 b1⟩
theorem St.fin (h : St w0 gr g gm w c m) : Calls Try.prog 35 #[.pointer (some ⟨g, 0, none⟩)] w fun en w' => en = .returned (.tuple #[]) ∧ St w0 gr g gm w' c.fin m := by
  have hc := h.cur
  refine (q_end hc).mono ?_
  rintro en w' ⟨rfl, b1, b2⟩
  exact ⟨rfl, h.upd b2 b1⟩
theorem St.put (h : St w0 gr g gm w c m) (i : Nat) (v : Value) (hi : i ≠ 15 ∧ i ≠ 21) (hm : ∀ W' cx, Kept w W' (fun k => k = g ∨ k = gm ∨ k = gr) → IsMsg W' cx m → IsMsg W' (cx.setIfInBounds i v) m') : St w0 gr g gm (w.setCell ⟨gm, i, none⟩ v) c m' := by
  obtain ⟨cx, a1, a2⟩ := h.cx
  have hk : Kept w (w.setCell ⟨gm, i, none⟩ v) (fun k => k = gm) := (Kept.refl w (fun k => k = gm)).setCell (p := ⟨gm, i, none⟩) (.inl rfl) v
  refine ⟨below_set h.b h.h1.2.1, ?_, ⟨_, blk_put a1 i v rfl, fun W' k => ?_⟩, blk_kept h.res hk h.h2.2.2, h.h1, h.h2, by obtain ⟨cy, n1, n2⟩ := h.nl; exact ⟨_, blk_put n1 i v rfl, n2.set hi⟩⟩
  · exact h.cur.on hk (fun k e => by rw [e]; exact h.h1.2.1) (fun e => h.h2.1 e.symm)
  · have k2 : Kept w W' (fun k => k = g ∨ k = gm ∨ k = gr) := (hk.mono fun j hj => .inr (.inl hj)).then_ k (fun j hj => .inl hj)
    exact hm W' cx k2 (a2 W' k2)
theorem St.put_addr (h : St w0 gr g gm w c m) {v : Int} (hv : 0 ≤ v ∧ v < 65536) : St w0 gr g gm (w.setCell ⟨gm, 2, none⟩ (.int .u16 v)) c { m with addr := v } :=
  h.put 2 _ (by decide) fun W' cx _ hm => set_addr hm hv
theorem St.put_count (h : St w0 gr g gm w c m) {v : Int} (hv : 0 ≤ v ∧ v < 65536) : St w0 gr g gm (w.setCell ⟨gm, 3, none⟩ (.int .u16 v)) c { m with count := v } :=
  h.put 3 _ (by decide) fun W' cx _ hm => set_count hm hv
theorem St.put_value (h : St w0 gr g gm w c m) {v : Int} (hv : 0 ≤ v ∧ v < 65536) : St w0 gr g gm (w.setCell ⟨gm, 4, none⟩ (.int .u16 v)) c { m with value := v } :=
  h.put 4 _ (by decide) fun W' cx _ hm => set_value hm hv
theorem St.put_bits (h : St w0 gr g gm w c m) {A : Option Addr} {n : Nat} {l : List Bool} (hn : l.length ≤ n) (hr : ∀ W', Kept w W' (fun k => k = g ∨ k = gm ∨ k = gr) → Kd.C Kd.bool W' A l.length l) : St w0 gr g gm (w.setCell ⟨gm, 13, none⟩ (.slice A l.length n)) c { m with bits := l } :=
  h.put 13 _ (by decide) fun W' cx k hm => set_bits hm hn (hr W' k)
theorem St.put_data (h : St w0 gr g gm w c m) {A : Option Addr} {n : Nat} {l : List Int} (hn : l.length ≤ n) (hg : isBytes l) (hr : ∀ W', Kept w W' (fun k => k = g ∨ k = gm ∨ k = gr) → Kd.C (Kd.int .u8) W' A l.length l) : St w0 gr g gm (w.setCell ⟨gm, 14, none⟩ (.slice A l.length n)) c { m with data := l } :=
  h.put 14 _ (by decide) fun W' cx k hm => set_data hm hn hg (hr W' k)
theorem St.at_addr (h : St w0 gr g gm w c m) : w.cell? ⟨gm, 2, none⟩ = some (.int .u16 m.addr) ∧ w.frozen? ⟨gm, 2, none⟩ = false := by
  obtain ⟨cx, a1, a2⟩ := h.cx
  exact ⟨bx_addr a1 (a2 w (Kept.refl _ _)), blk_frozen a1 2⟩
theorem St.at_count (h : St w0 gr g gm w c m) : w.cell? ⟨gm, 3, none⟩ = some (.int .u16 m.count) ∧ w.frozen? ⟨gm, 3, none⟩ = false := by
  obtain ⟨cx, a1, a2⟩ := h.cx
  exact ⟨bx_count a1 (a2 w (Kept.refl _ _)), blk_frozen a1 3⟩
theorem St.at_value (h : St w0 gr g gm w c m) : w.cell? ⟨gm, 4, none⟩ = some (.int .u16 m.value) ∧ w.frozen? ⟨gm, 4, none⟩ = false := by
  obtain ⟨cx, a1, a2⟩ := h.cx
  exact ⟨bx_value a1 (a2 w (Kept.refl _ _)), blk_frozen a1 4⟩
theorem St.at_bits (h : St w0 gr g gm w c m) : ∃ A n, w.cell? ⟨gm, 13, none⟩ = some (.slice A m.bits.length n) ∧ w.frozen? ⟨gm, 13, none⟩ = false := by
  obtain ⟨cx, a1, a2⟩ := h.cx
  obtain ⟨A12, c12, A13, c13, A14, c14, A15, c15, A21, c21, l, _⟩ := (a2 w (Kept.refl _ _)).lists
  exact ⟨A13, c13, (blk_cell a1 13).trans l.2.1, blk_frozen a1 13⟩
theorem St.at_data (h : St w0 gr g gm w c m) : ∃ A n, w.cell? ⟨gm, 14, none⟩ = some (.slice A m.data.length n) ∧ w.frozen? ⟨gm, 14, none⟩ = false := by
  obtain ⟨cx, a1, a2⟩ := h.cx
  obtain ⟨A12, c12, A13, c13, A14, c14, A15, c15, A21, c21, l, _⟩ := (a2 w (Kept.refl _ _)).lists
  exact ⟨A14, c14, (blk_cell a1 14).trans l.2.2.1, blk_frozen a1 14⟩
theorem St.held (h : St w0 gr g gm w c m) : Held w0 [(gr, zeroC)] w := ⟨h.b, fun p hp => by obtain rfl := List.mem_singleton.1 hp; exact ⟨h.h1.2.2, h.res⟩, List.pairwise_singleton _ _⟩
theorem St.held2 (h : St w0 gr g gm w c m) : ∃ cx, Held w0 [(gr, zeroC), (gm, cx)] w ∧ cx.size = 22 ∧ ∀ w', Up1 gr w w' → IsMsg w' cx m := by
  obtain ⟨cx, a1, a2⟩ := h.cx
  refine ⟨cx, ⟨h.b, fun p hp => ?_, ?_⟩, (a2 w (Kept.refl _ _)).size, fun w' hu => a2 w' (hu.kept.mono fun j hj => .inr (.inr hj))⟩
  · rcases List.mem_cons.1 hp with rfl | hp
    · exact ⟨h.h1.2.2, h.res⟩
    · obtain rfl := List.mem_singleton.1 hp
      exact ⟨h.h1.2.1, a1⟩
  · refine List.pairwise_cons.2 ⟨fun q hq => ?_, List.pairwise_singleton _ _⟩
    obtain rfl := List.mem_singleton.1 hq
    exact h.h2.2.2
end
theorem zero_nil : NilL zeroC := by
  intro i A n hi e
  rcases hi with rfl | rfl <;> exact ⟨(Value.slice.inj (Option.some.inj e)).1.symm, (Value.slice.inj (Option.some.inj e)).2.2.symm⟩
theorem ev_cur {ops : Array Oper} {rest : List Oper} {o : Oper} {a : Act} {w : World} {Q : Exit → Act → World → Prop} {A : Option Addr} {n c : Nat} {y : Operand} (ho : o.op = .box 57 y) (hgd : o.guard = none) (hy : a.eval y = .agg #[.slice A n c, .int .i64 0, .bool false, .int .i64 0])
    (h : ∀ g w1, g = w.heap.size → w1 = w.alloc (.cells #[.slice A n c, .int .i64 0, .bool false, .int .i64 0] 57) → wpList Try.prog ops Q rest (a.put o.dst (.pointer (some ⟨g, 0, none⟩))) w1) : wpList Try.prog ops Q (o :: rest) a w := by
  refine Kd.event_run hgd ?_ (h _ _ rfl rfl)
  unfold execOp
  rw [ho]
  simp only [hy]
  rfl
structure Nw (w0 : World) (gr g : Nat) (w : World) (c : Cu) : Prop where
  b : Below w0.heap.size w0 w
  cur : QAt w0.heap.size w g c
  res : w.heap[gr]? = some (.cells zeroC 30 (0, 0))
  h1 : w0.heap.size ≤ g ∧ w0.heap.size ≤ gr
  h2 : gr ≠ g
theorem Nw.first {w0 w1 w2 : World} {gr g : Nat} {A : Option Addr} {n : Nat} {l : List Int} (hr : Kd.C (Kd.int .u8) w0 A l.length l) (hc : l.length ≤ n) (hs : l.length ≤ 1000000) (hbb : isBytes l) (hg : gr = w0.heap.size) (hk : w1.heap[gr]? = some (.cells zeroC 30 (0, 0))) (hb : Below w0.heap.size w0 w1)
    (h1 : g = w1.heap.size) (h2 : w2 = w1.alloc (.cells #[.slice A l.length n, .int .i64 0, .bool false, .int .i64 0] 57)) : Nw w0 gr g w2 ⟨l, false, 0⟩ := by
  have hrow : Row 0 w0.heap.size w0 A l := Kd.C_kept_came (Kd.heap_int .u8) hr (Below.refl _ _) (fun k hk => by omega)
  have hl := blk_lt hk
  have hq := q_new hrow hc hs hbb (W := w1) (Kept.of_below hb _)
  have hb2 : Below w1.heap.size w1 w2 := by rw [h2]; exact below_alloc (Below.refl _ _) _
  exact ⟨hb.trans (hb2.mono hb.size), by rw [h1, h2]; exact hq, blk_below hk hb2, ⟨by rw [h1]; exact hb.size, by omega⟩, by omega⟩
theorem Nw.new {w0 w w' : World} {gr g gm : Nat} {c : Cu} {m : Msg} {cx : Array Value} (h : Nw w0 gr g w c) (hg : gm = w.heap.size) (hk : w'.heap[gm]? = some (.cells cx 30 (0, 0))) (hb : Below w.heap.size w w') (M : ∀ W, IsMsg W cx m) (nl : NilL cx) : St w0 gr g gm w' c m := by
  have lg := QAt.lt h.cur
  have lr := blk_lt h.res
  exact ⟨h.b.trans (hb.mono h.b.size), h.cur.on (S := fun _ => False) (Kept.of_below hb _) (fun _ h => h.elim) (fun h => h), ⟨cx, hk, fun W' _ => M W'⟩, blk_below h.res hb, ⟨h.h1.1, by have := h.b.size; omega, h.h1.2⟩, ⟨by omega, h.h2, by omega⟩, ⟨cx, hk, nl⟩⟩
theorem St.blk {w0 w : World} {gr g gm : Nat} {c : Cu} {m : Msg} (h : St w0 gr g gm w c m) : ∃ v0 v1 v2, w.heap[g]? = some (.cells #[v0, v1, v2, .int .i64 c.e] 57 (0, 0)) := by
  obtain ⟨all, n, ⟨_, _, _, A, k, a1, _⟩, _⟩ := h.cur
  exact ⟨_, _, _, a1⟩
end Go.Proofs.Ytggiobdjepgkfaa.QS
end
section
namespace Go.Proofs.Ytggiobdjepgkfaa.CoilR
open Go.RowKit Go.Proofs.Ytggiobdjepgkfaa.P Go.Proofs.Ytggiobdjepgkfaa.E Go.Proofs.Ytggiobdjepgkfaa.Cur Go.Proofs.Ytggiobdjepgkfaa.Cu Go.Proofs.Ytggiobdjepgkfaa.Same Go.Proofs.Ytggiobdjepgkfaa.Bits Go.Proofs.Ytggiobdjepgkfaa.Coil Go.Proofs.YtggiobdjepgkfaaW.PrintWords Go.Proofs.YtggiobdjepgkfaaW.PrintLast Go.Proofs.YtggiobdjepgkfaaW.PrintMore
theorem QS.lt3 {w0 w : World} {gr g gm : Nat} {c : Cu} {m : Msg} (h : QS.St w0 gr g gm w c m) : g < w.heap.size ∧ gm < w.heap.size ∧ gr < w.heap.size := by
  obtain ⟨cx, a1, _⟩ := h.cx
  exact ⟨QAt.lt h.cur, blk_lt a1, blk_lt h.res⟩
theorem QS.need_k {w0 w : World} {gr g gm : Nat} {c : Cu} {m : Msg} (h : QS.St w0 gr g gm w c m) (ok : Bool) (f : Int) : Calls Try.prog 30 #[.pointer (some ⟨g, 0, none⟩), .bool ok, .int .i64 f] w fun en w' => en = .returned (.tuple #[]) ∧ QS.St w0 gr g gm w' (c.need ok f) m ∧ Kept w w' (fun k => k = g) := by
  refine (q_need h.cur ok f).mono ?_
  rintro en w' ⟨rfl, b1, b2⟩
  exact ⟨rfl, h.upd b2 b1, b2.kept⟩
theorem span_1 {w0 w : World} {gr g gm : Nat} {c0 : Cu} {m : Msg} (h : QS.St w0 gr g gm w c0 m) {most : Int} (hg : 1 ≤ c0.wordS.wordV) :
    Calls Try.prog 28 #[.pointer (some ⟨g, 0, none⟩), .pointer (some ⟨gm, 0, none⟩), .int .i64 most] w fun en w' => en = .returned (.tuple #[]) ∧ QS.St w0 gr g gm w' (spanR most m c0).1 (spanR most m c0).2 := by
  have HP := Aside0.mk h
  have HG := Aside0.mk hg
  clear h hg
  go_enter Try.func28, Try.ntmps28
  go_upto_region 1 with (first | (go_at_call 32; obtain ⟨l0, h0⟩ := Cu.wordV_bd (QS.St.good HP.out); (with_reducible refine (QS.St.word HP.out).mono ?_); rintro en x1 ⟨rfl, hp_⟩; obtain ⟨c1, ec_⟩ : ∃ z, z = c0.wordS := ⟨_, rfl⟩; rw [← ec_] at hp_; have Ec1 := Aside0.mk ec_; clear ec_; obtain ⟨kaddr, faddr⟩ := QS.St.at_addr hp_; have n0_ := Aside0.mk hp_; clear HP hp_; have HP := n0_; clear n0_))
  have hp_ := HP.out.put_addr ⟨l0, h0⟩
  have n0_ := Aside0.mk hp_
  clear HP hp_
  have HP := n0_
  clear n0_
  go_upto_region 2 with (first | (go_at_call 32; obtain ⟨l1, h1⟩ := Cu.wordV_bd (QS.St.good HP.out); (with_reducible refine (QS.St.word HP.out).mono ?_); rintro en x2 ⟨rfl, hp_⟩; obtain ⟨c2, ec_⟩ : ∃ z, z = c1.wordS := ⟨_, rfl⟩; rw [← ec_] at hp_; have Ec2 := Aside0.mk ec_; clear ec_; obtain ⟨kcount, fcount⟩ := QS.St.at_count hp_; have n0_ := Aside0.mk hp_; clear HP hp_; have HP := n0_; clear n0_))
  have hp_ := HP.out.put_count ⟨l1, h1⟩
  obtain ⟨kcount, fcount⟩ := QS.St.at_count hp_
  have n0_ := Aside0.mk hp_
  clear HP hp_
  have HP := n0_
  clear n0_
  have wk := wrap64_id (x := c1.wordV) (by omega) (by omega)
  have wkb : IntKind.i64.wrap c1.wordV = c1.wordV := by rw [i64_w]; exact wk
  go_upto_region 3 with (fail)
  clear kcount fcount
  have hge : decide (1 ≤ c1.wordV) = true := decide_eq_true (by have := HG.out; rw [← Ec1.out] at this; omega)
  have hge2 : decide (c1.wordV > 0) = true := by rw [← hge]; exact decide_eq_decide.2 ⟨fun h => by omega, fun h => by omega⟩
  have hge3 : decide (0 < c1.wordV) = true := hge2
  have EB := Aside0.mk (show (decide (1 ≤ c1.wordV) && decide (c1.wordV ≤ most)) = (decide (c1.wordV ≤ most)) from by rw [hge]; rfl)
  go_upto_region 4 with (first | (go_at_call 30; (with_reducible refine (QS.St.need HP.out (decide (c1.wordV ≤ most)) 5).mono ?_); rintro en x3 ⟨rfl, hp_⟩; rw [← EB.out] at hp_; obtain ⟨c3, ec_⟩ : ∃ z, z = c2.need (decide (1 ≤ c1.wordV) && decide (c1.wordV ≤ most)) 5 := ⟨_, rfl⟩; rw [← ec_] at hp_; have Ec3 := Aside0.mk ec_; clear ec_; have n0_ := Aside0.mk hp_; clear HP hp_; have HP := n0_; clear n0_))
  clear hge hge2 hge3
  obtain ⟨kaddr, faddr⟩ := QS.St.at_addr HP.out
  go_wp2_with (first | (go_at_call 49; (with_reducible refine (rwithin_c ⟨l0, h0⟩ _).mono ?_); rintro en x90 ⟨rfl, hb_⟩; have n0_ := Aside0.mk (HP.out.below hb_); clear HP hb_; have HP := n0_; clear n0_) | (go_at_call 30; (with_reducible refine (QS.St.need HP.out (withinB c0.wordV c1.wordV) 7).mono ?_); rintro en x4 ⟨rfl, hp_⟩; obtain ⟨c4, ec_⟩ : ∃ z, z = c3.need (withinB c0.wordV c1.wordV) 7 := ⟨_, rfl⟩; rw [← ec_] at hp_; have Ec4 := Aside0.mk ec_; clear ec_; have n0_ := Aside0.mk hp_; clear HP hp_; have HP := n0_; clear n0_))
  have eq_ : spanR most m c0 = (c4, { ({ m with addr := c0.wordV } : Msg) with count := c1.wordV }) := by
    rw [Ec4.out, Ec3.out, Ec2.out, Ec1.out]
    rfl
  rw [eq_]
  exact bodyPost_end (results_none rfl _ _ _) rfl ⟨rfl, HP.out⟩
theorem span_0 {w0 w : World} {gr g gm : Nat} {c0 : Cu} {m : Msg} (h : QS.St w0 gr g gm w c0 m) {most : Int} (hg : ¬ 1 ≤ c0.wordS.wordV) :
    Calls Try.prog 28 #[.pointer (some ⟨g, 0, none⟩), .pointer (some ⟨gm, 0, none⟩), .int .i64 most] w fun en w' => en = .returned (.tuple #[]) ∧ QS.St w0 gr g gm w' (spanR most m c0).1 (spanR most m c0).2 := by
  have HP := Aside0.mk h
  have HG := Aside0.mk hg
  clear h hg
  go_enter Try.func28, Try.ntmps28
  go_upto_region 1 with (first | (go_at_call 32; obtain ⟨l0, h0⟩ := Cu.wordV_bd (QS.St.good HP.out); (with_reducible refine (QS.St.word HP.out).mono ?_); rintro en x1 ⟨rfl, hp_⟩; obtain ⟨c1, ec_⟩ : ∃ z, z = c0.wordS := ⟨_, rfl⟩; rw [← ec_] at hp_; have Ec1 := Aside0.mk ec_; clear ec_; obtain ⟨kaddr, faddr⟩ := QS.St.at_addr hp_; have n0_ := Aside0.mk hp_; clear HP hp_; have HP := n0_; clear n0_))
  have hp_ := HP.out.put_addr ⟨l0, h0⟩
  have n0_ := Aside0.mk hp_
  clear HP hp_
  have HP := n0_
  clear n0_
  go_upto_region 2 with (first | (go_at_call 32; obtain ⟨l1, h1⟩ := Cu.wordV_bd (QS.St.good HP.out); (with_reducible refine (QS.St.word HP.out).mono ?_); rintro en x2 ⟨rfl, hp_⟩; obtain ⟨c2, ec_⟩ : ∃ z, z = c1.wordS := ⟨_, rfl⟩; rw [← ec_] at hp_; have Ec2 := Aside0.mk ec_; clear ec_; obtain ⟨kcount, fcount⟩ := QS.St.at_count hp_; have n0_ := Aside0.mk hp_; clear HP hp_; have HP := n0_; clear n0_))
  have hp_ := HP.out.put_count ⟨l1, h1⟩
  obtain ⟨kcount, fcount⟩ := QS.St.at_count hp_
  have n0_ := Aside0.mk hp_
  clear HP hp_
  have HP := n0_
  clear n0_
  have wk := wrap64_id (x := c1.wordV) (by omega) (by omega)
  have wkb : IntKind.i64.wrap c1.wordV = c1.wordV := by rw [i64_w]; exact wk
  go_upto_region 3 with (fail)
  clear kcount fcount
  have hge : decide (1 ≤ c1.wordV) = false := decide_eq_false (by have := HG.out; rw [← Ec1.out] at this; omega)
  have hge2 : decide (c1.wordV > 0) = false := by rw [← hge]; exact decide_eq_decide.2 ⟨fun h => by omega, fun h => by omega⟩
  have hge3 : decide (0 < c1.wordV) = false := hge2
  have EB := Aside0.mk (show (decide (1 ≤ c1.wordV) && decide (c1.wordV ≤ most)) = (false) from by rw [hge]; rfl)
  go_upto_region 4 with (first | (go_at_call 30; (with_reducible refine (QS.St.need HP.out (false) 5).mono ?_); rintro en x3 ⟨rfl, hp_⟩; rw [← EB.out] at hp_; obtain ⟨c3, ec_⟩ : ∃ z, z = c2.need (decide (1 ≤ c1.wordV) && decide (c1.wordV ≤ most)) 5 := ⟨_, rfl⟩; rw [← ec_] at hp_; have Ec3 := Aside0.mk ec_; clear ec_; have n0_ := Aside0.mk hp_; clear HP hp_; have HP := n0_; clear n0_))
  clear hge hge2 hge3
  obtain ⟨kaddr, faddr⟩ := QS.St.at_addr HP.out
  go_wp2_with (first | (go_at_call 49; (with_reducible refine (rwithin_c ⟨l0, h0⟩ _).mono ?_); rintro en x90 ⟨rfl, hb_⟩; have n0_ := Aside0.mk (HP.out.below hb_); clear HP hb_; have HP := n0_; clear n0_) | (go_at_call 30; (with_reducible refine (QS.St.need HP.out (withinB c0.wordV c1.wordV) 7).mono ?_); rintro en x4 ⟨rfl, hp_⟩; obtain ⟨c4, ec_⟩ : ∃ z, z = c3.need (withinB c0.wordV c1.wordV) 7 := ⟨_, rfl⟩; rw [← ec_] at hp_; have Ec4 := Aside0.mk ec_; clear ec_; have n0_ := Aside0.mk hp_; clear HP hp_; have HP := n0_; clear n0_))
  have eq_ : spanR most m c0 = (c4, { ({ m with addr := c0.wordV } : Msg) with count := c1.wordV }) := by
    rw [Ec4.out, Ec3.out, Ec2.out, Ec1.out]
    rfl
  rw [eq_]
  exact bodyPost_end (results_none rfl _ _ _) rfl ⟨rfl, HP.out⟩
theorem span_any {w0 w : World} {gr g gm : Nat} {c0 : Cu} {m : Msg} (h : QS.St w0 gr g gm w c0 m) (most : Int) :
    Calls Try.prog 28 #[.pointer (some ⟨g, 0, none⟩), .pointer (some ⟨gm, 0, none⟩), .int .i64 most] w fun en w' => en = .returned (.tuple #[]) ∧ QS.St w0 gr g gm w' (spanR most m c0).1 (spanR most m c0).2 := by
  by_cases hg : 1 ≤ c0.wordS.wordV
  · exact span_1 h hg
  · exact span_0 h hg
theorem parse_dir {A : Option Addr} {c : Nat} {l : List Int} {w0 : World} (hr : Kd.C (Kd.int .u8) w0 A l.length l) (hc : l.length ≤ c) (hs : l.length ≤ 1000000) (hb : isBytes l) {dir code : Int} (h0 : dir ≠ 0) (h1 : dir ≠ 1) :
    Calls Try.prog 14 #[.int .i64 dir, .int .u8 code, .slice A l.length c] w0 fun en w' => ∃ cx, en = .returned (.tuple #[.agg cx, .int .i64 1]) ∧ IsMsg w' cx zeroM ∧ Below w0.heap.size w0 w' := by
  clear hr hc hs hb
  have H := Aside0.mk (Held.start w0)
  have e0 : (dir != 0) = true := by simpa using h0
  have e1 : (dir != 1) = true := by simpa using h1
  have e0' : (dir == 0) = false := by simpa using h0
  have e1' : (dir == 1) = false := by simpa using h1
  clear h0 h1
  go_enter Try.func14, Try.ntmps14
  go_wp2_with (first | ((with_reducible refine gate_dst (N := 6) rfl ?_); refine ev_alloc rfl rfl ?_; intro g w1 hg_ h1_ h2_; have n0_ := Aside0.mk (H.out.new hg_ h1_ h2_); clear H; have H := n0_; clear n0_; clear h1_ h2_ hg_) | ((with_reducible refine gate_dst (N := 20) rfl ?_); refine ev_build (zeroC) rfl (by go_simp; first | rfl | done) ?_; intro cx hcx_; have M := Aside0.mk (show ∀ W, IsMsg W cx _ from fun W => by rw [hcx_]; exact zero_is W); clear hcx_) | ((with_reducible refine gate_op (u := .store 30 (.tmp 6) (.tmp 20)) rfl ?_); refine ev_store rfl rfl rfl rfl H.out (i := 0) rfl (rfl) (M.out w0) ?_; intro w2 h3_ h4_; have n0_ := Aside0.mk (h3_); clear H; have H := n0_; clear n0_; clear h3_ h4_))
  refine bodyPost_ret (results_ct rfl _ _ g 30 cx (0, 0) _ rfl (H.out.at 0 rfl) Try.underlying30 rfl (msg_info ((M.out w0).size))) rfl (⟨cx, rfl, M.out _, H.out.b⟩)
def rparse8.T28 : Bool × List (List Nat × List Nat) := (true, [([], []), ([], []), ([1], [1]), ([2], [2]), ([3], [3]), ([0, 0], [0]), ([4, 5, 0, 1, 2, 3, 4, 5], [4])])
def rparse8.B28 : List Nat := [0, 0, 2, 6, 14, 1, 63]
theorem rparse8.tab28 : rtab .any (opsOf Try.f14 28) = rparse8.T28 := by kernel_rfl
theorem rparse8.bits28 : waitsOk rparse8.T28.2 rparse8.B28 = true := by kernel_rfl
def rparse8.T23 : Bool × List (List Nat × List Nat) := (true, [([], []), ([], []), ([0, 1], [0, 1]), ([], []), ([3], [3]), ([4], [4]), ([2, 5, 2], [2, 5]), ([6], [6]), ([7], [7]), ([7], [7]), ([8, 6, 0, 1, 2, 3, 4, 5, 6, 7, 8], [8]), ([9, 10, 0, 1, 2, 3, 4, 5, 6, 7, 8, 9, 10], [9])])
def rparse8.B23 : List Nat := [0, 0, 3, 0, 8, 24, 63, 127, 255, 255, 511, 2047]
theorem rparse8.tab23 : rtab .any (opsOf Try.f14 23) = rparse8.T23 := by kernel_rfl
theorem rparse8.bits23 : waitsOk rparse8.T23.2 rparse8.B23 = true := by kernel_rfl
theorem parse_no0 {A : Option Addr} {c : Nat} {l : List Int} {w0 : World} (hr : Kd.C (Kd.int .u8) w0 A l.length l) (hc : l.length ≤ c) (hs : l.length ≤ 1000000) (hb : isBytes l) {code : Int} (hcd : 0 ≤ code ∧ code < 256) (hk : ¬ (code = 1 ∨ code = 2 ∨ code = 5 ∨ code = 15)) :
    Calls Try.prog 14 #[.int .i64 0, .int .u8 code, .slice A l.length c] w0 fun en w' => ∃ cx, en = .returned (.tuple #[.agg cx, .int .i64 4]) ∧ IsMsg w' cx zeroM ∧ Below w0.heap.size w0 w' := by
  have HR := Aside0.mk hr
  have HC := Aside0.mk hc
  have HS := Aside0.mk hs
  have HBB := Aside0.mk hb
  clear hr hc hs hb
  have HKB := Aside0.mk hcd
  clear hcd
  have hk1 : (code == 1) = false := beq_eq_false_iff_ne.2 (by omega)
  have hk2 : (code == 2) = false := beq_eq_false_iff_ne.2 (by omega)
  have hk5 : (code == 5) = false := beq_eq_false_iff_ne.2 (by omega)
  have hk15 : (code == 15) = false := beq_eq_false_iff_ne.2 (by omega)
  clear hk
  go_enter Try.func14, Try.ntmps14
  go_upto_region 3 with (first | ((with_reducible refine gate_dst (N := 6) rfl ?_); refine ev_alloc rfl rfl ?_; intro gr w1 hg_ h1_ h2_; have HG_ := Aside0.mk hg_; have H1 := Aside0.mk h1_; have H2 := Aside0.mk h2_; clear hg_ h1_ h2_))
  go_upto_region 4 with (first | ((with_reducible refine gate_dst (N := 23) rfl ?_); refine QS.ev_cur rfl rfl rfl ?_; intro g w2 q1_ q2_; have HP := Aside0.mk (QS.Nw.first HR.out HC.out HS.out HBB.out HG_.out H1.out H2.out q1_ q2_); clear q1_ q2_ H1 H2 HG_))
  obtain ⟨c0, e_⟩ : ∃ z, z = (⟨l, false, 0⟩ : Cu) := ⟨_, rfl⟩
  rw [← e_] at HP
  have Ec0 := Aside0.mk e_
  clear e_
  go_upto_region 5 with (first | ((with_reducible refine gate_dst (N := 25) rfl ?_); refine ev_build ((zeroC.setIfInBounds 0 (.int .u8 (code)))) rfl (by go_simp; first | rfl | done) ?_; intro cx hcx_; have M := Aside0.mk (show ∀ W, IsMsg W cx _ from fun W => by rw [hcx_]; exact (fun W => set_code (zero_is W) (v := code) ⟨by have := HKB.out; omega, by have := HKB.out; omega⟩) W); have NL := Aside0.mk (show NilL cx by rw [hcx_]; exact (QS.zero_nil.set (by decide))); clear hcx_) | ((with_reducible refine gate_dst (N := 9) rfl ?_); refine ev_var (y := .tmp 25) rfl rfl rfl rfl rfl (M.out w0) rfl rfl ?_; intro gm w4 hg_ h1_ hb_; have hp_ := QS.Nw.new HP.out hg_ h1_ hb_ M.out NL.out; clear h1_ hb_ hg_; have n0_ := Aside0.mk hp_; clear HP hp_; have HP := n0_; clear n0_))
  clear HR HC HS HBB M NL
  obtain ⟨m0, hm0⟩ : ∃ z, z = ({ zeroM with code := code } : Msg) := ⟨_, rfl⟩
  replace HP : Aside0 (QS.St w0 gr g gm w4 c0 { zeroM with code := code }) := HP
  rw [← hm0] at HP
  have HM0 := Aside0.mk hm0
  clear hm0
  have H := Aside0.mk (QS.St.held HP.out)
  clear HP
  go_wp2_with (first | ((with_reducible refine gate_dst (N := 27) rfl ?_); refine ev_build (zeroC) rfl (by go_simp; first | rfl | done) ?_; intro cx hcx_; have M := Aside0.mk (show ∀ W, IsMsg W cx _ from fun W => by rw [hcx_]; exact zero_is W); clear hcx_) | ((with_reducible refine gate_op (u := .store 30 (.tmp 6) (.tmp 27)) rfl ?_); refine ev_store rfl rfl rfl rfl H.out (i := 0) rfl (rfl) (M.out w0) ?_; intro w99 h3_ h4_; have n0_ := Aside0.mk (h3_); clear H; have H := n0_; clear n0_; clear h3_ h4_))
  refine bodyPost_ret (results_ct rfl _ _ gr 30 _ (0, 0) _ rfl (H.out.at 0 rfl) Try.underlying30 rfl (msg_info ((M.out w0).size))) rfl (⟨_, rfl, M.out _, H.out.b⟩)
theorem parse_0_1 {A : Option Addr} {c : Nat} {l : List Int} {w0 : World} (hr : Kd.C (Kd.int .u8) w0 A l.length l) (hc : l.length ≤ c) (hs : l.length ≤ 1000000) (hb : isBytes l) :
    Calls Try.prog 14 #[.int .i64 0, .int .u8 1, .slice A l.length c] w0 fun en w' => ∃ cx, en = .returned (.tuple #[.agg cx, .int .i64 (parse 0 1 l).2]) ∧ IsMsg w' cx (parse 0 1 l).1 ∧ Below w0.heap.size w0 w' := by
  have HR := Aside0.mk hr
  have HC := Aside0.mk hc
  have HS := Aside0.mk hs
  have HBB := Aside0.mk hb
  clear hr hc hs hb
  go_enter Try.func14, Try.ntmps14
  go_upto_region 3 with (first | ((with_reducible refine gate_dst (N := 6) rfl ?_); refine ev_alloc rfl rfl ?_; intro gr w1 hg_ h1_ h2_; have HG_ := Aside0.mk hg_; have H1 := Aside0.mk h1_; have H2 := Aside0.mk h2_; clear hg_ h1_ h2_))
  go_upto_region 4 with (first | ((with_reducible refine gate_dst (N := 23) rfl ?_); refine QS.ev_cur rfl rfl rfl ?_; intro g w2 q1_ q2_; have HP := Aside0.mk (QS.Nw.first HR.out HC.out HS.out HBB.out HG_.out H1.out H2.out q1_ q2_); clear q1_ q2_ H1 H2 HG_))
  obtain ⟨c0, e_⟩ : ∃ z, z = (⟨l, false, 0⟩ : Cu) := ⟨_, rfl⟩
  rw [← e_] at HP
  have Ec0 := Aside0.mk e_
  clear e_
  go_upto_region 5 with (first | ((with_reducible refine gate_dst (N := 25) rfl ?_); refine ev_build ((zeroC.setIfInBounds 0 (.int .u8 (1)))) rfl (by go_simp; first | rfl | done) ?_; intro cx hcx_; have M := Aside0.mk (show ∀ W, IsMsg W cx _ from fun W => by rw [hcx_]; exact (fun W => set_code (zero_is W) (v := 1) (by decide)) W); have NL := Aside0.mk (show NilL cx by rw [hcx_]; exact (QS.zero_nil.set (by decide))); clear hcx_) | ((with_reducible refine gate_dst (N := 9) rfl ?_); refine ev_var (y := .tmp 25) rfl rfl rfl rfl rfl (M.out w0) rfl rfl ?_; intro gm w4 hg_ h1_ hb_; have hp_ := QS.Nw.new HP.out hg_ h1_ hb_ M.out NL.out; clear h1_ hb_ hg_; have n0_ := Aside0.mk hp_; clear HP hp_; have HP := n0_; clear n0_))
  clear HR HC HS HBB M NL
  obtain ⟨m0, hm0⟩ : ∃ z, z = ({ zeroM with code := 1 } : Msg) := ⟨_, rfl⟩
  replace HP : Aside0 (QS.St w0 gr g gm w4 c0 { zeroM with code := 1 }) := HP
  rw [← hm0] at HP
  have HM0 := Aside0.mk hm0
  clear hm0
  go_upto_region 26 with (first | (go_at_call 28; (with_reducible refine (span_any HP.out 2000).mono ?_); rintro en x80 ⟨rfl, hp_⟩; obtain ⟨z1, ez_⟩ : ∃ z, z = spanR 2000 m0 c0 := ⟨_, rfl⟩; rw [← ez_] at hp_; obtain ⟨c1, m1⟩ := z1; have EZ := Aside0.mk ez_; clear ez_; have n0_ := Aside0.mk hp_; clear HP hp_; have HP := n0_; clear n0_))
  replace HP : Aside0 (QS.St w0 gr g gm x80 c1 m1) := HP
  have eq_ : bodyR 0 1 m0 c0 = (c1, m1) := by rw [EZ.out]; rfl
  obtain ⟨cb, e_⟩ : ∃ z, z = bodyR 0 1 m0 c0 := ⟨_, rfl⟩
  have EBD := Aside0.mk e_
  rw [eq_] at e_
  obtain ⟨c9, m9⟩ := cb
  obtain ⟨e1_, e2_⟩ := Prod.mk.inj e_
  rw [← e1_, ← e2_] at HP
  clear e_ e1_ e2_ eq_
  go_upto_region 27 with (first | (go_at_call 35; (with_reducible refine (QS.St.fin HP.out).mono ?_); rintro en x61 ⟨rfl, hp_⟩; obtain ⟨c10, ec_⟩ : ∃ z, z = c9.fin := ⟨_, rfl⟩; rw [← ec_] at hp_; have Ec10 := Aside0.mk ec_; clear ec_; have n0_ := Aside0.mk hp_; clear HP hp_; have HP := n0_; clear n0_))
  have he1 : parse 0 1 l = if c10.e ≠ 0 then (zeroM, c10.e) else (m9, 0) := by
    have e2 : bodyR 0 1 { zeroM with code := 1 } (cu l) = (c9, m9) := by rw [EBD.out, HM0.out, Ec0.out]; rfl
    unfold parse
    rw [if_neg (by decide), if_neg (by decide), e2, Ec10.out]
  obtain ⟨v0, v1, v2, hbk⟩ := QS.St.blk HP.out
  have ke := (RCur.cells4 hbk).1.2.2.2
  have HBK := Aside0.mk hbk
  have HNE := Aside0.mk HP.out.h2.2.1
  clear hbk
  by_cases h9 : c10.e = 0
  · have ex_ : parse 0 1 l = (m9, 0) := by rw [he1, if_neg (fun h => h h9)]
    have EX := Aside0.mk ex_
    have g1 : (c10.e != 0) = false := by rw [h9]; rfl
    have g2 : (c10.e == 0) = true := by rw [h9]; rfl
    clear h9 ex_ he1
    obtain ⟨cx, h_, hz_, hm_⟩ := QS.St.held2 HP.out
    have H := Aside0.mk h_
    have HZ := Aside0.mk hz_
    have HM := Aside0.mk hm_
    have HB := Aside0.mk HP.out.b
    clear h_ hz_ hm_ HP
    go_wp2_with (first | ((with_reducible refine gate_dst (N := 112) rfl ?_); refine ev_load (x := .tmp 9) rfl rfl rfl H.out (i := 1) rfl (HZ.out) ?_) | ((with_reducible refine gate_op (u := .store 30 (.tmp 6) (.tmp 112)) rfl ?_); refine ev_store rfl rfl rfl rfl H.out (i := 0) rfl rfl (HM.out _ ⟨rfl, rfl, rfl, Kept.refl _ _⟩) ?_; intro x91 h3_ h4_; have HE := Aside0.mk (HM.out _ h4_); clear h4_; have n0_ := Aside0.mk (h3_); clear H; have H := n0_; clear n0_; clear h3_))
    refine bodyPost_ret (results_ct rfl _ _ gr 30 _ (0, 0) _ rfl (H.out.at 0 rfl) Try.underlying30 rfl (msg_info (HZ.out))) rfl (by rw [EX.out]; exact ⟨_, rfl, HE.out, H.out.b⟩)
  · have ex_ : parse 0 1 l = (zeroM, c10.e) := by rw [he1, if_pos h9]
    have EX := Aside0.mk ex_
    have g1 : (c10.e != 0) = true := by simpa using h9
    have g2 : (c10.e == 0) = false := by simpa using h9
    clear h9 ex_ he1
    have H := Aside0.mk (QS.St.held HP.out)
    clear HP
    go_upto_region 28 with (fail)
    clear ke
    refine start_ (n := 7) (S := fun w' => w'.cell? ⟨g, 3, none⟩ = some (.int .i64 c10.e) ∧ Aside0 (Held w0 [(gr, zeroC)] w')) (ds := []) (bm 7 0) (by as_aux_lemma => kernel_rfl) rfl (by as_aux_lemma => kernel_rfl) ⟨((RCur.cells4 (blk_drew HBK.out)).1.2.2.2), (Aside0.mk H.out.drew)⟩ (fun hHeld => ?_)
    refine with_tabW rparse8.tab28 rparse8.bits28 (fun HT_ HW_ => ?_)
    refine pu_ 0 (some 107) (bm 7 1) HT_ (by as_aux_lemma => kernel_rfl) rfl rfl (fun _ _ _ h => h) (by rfl) (by intro w'; go_simp; with_reducible rfl) (by go_simp; rfl) ?_
    refine pu_ 1 (some 108) (bm 7 3) HT_ (by as_aux_lemma => kernel_rfl) rfl rfl (fun _ _ _ h => h) (by rfl) (by intro w'; go_simp; with_reducible rfl) (by go_simp; rfl) ?_
    refine pu_ 2 (some 109) (bm 7 7) HT_ (by as_aux_lemma => kernel_rfl) rfl rfl (fun _ _ _ h => h) (by rfl) (by intro w'; go_simp; with_reducible rfl) (by go_simp; rfl) ?_
    refine pu_ 3 (some 110) (bm 7 15) HT_ (by as_aux_lemma => kernel_rfl) rfl rfl (fun _ _ _ h => h) (by rfl) (by intro w'; go_simp; with_reducible rfl) (by go_simp; rfl) ?_
    refine tk_ 4 (some 111) (bm 7 31) HT_ HW_ hHeld (by as_aux_lemma => kernel_rfl) rfl rfl (fun _ _ _ h => h) (by rfl) (by rintro w' ⟨s0, s1⟩; go_simp; with_reducible rfl) (by go_simp; rfl) ?_
    refine one_ (i := 5) (N := none) (bm 7 63) rfl rfl (one_of HT_.out (by as_aux_lemma => kernel_rfl)) (by as_aux_lemma => decide) (fun K hK => ?_)
    have Hd_ := Aside0.mk H.out.drew
    clear H
    have H := Hd_
    clear Hd_
    refine store_ (x := .tmp 6) (y := .tmp 107) (by rfl) rfl rfl rfl rfl H.out (i := 0) rfl (rfl) (zero_is w0) ?_
    intro x97 h3_ h4_
    have ke3 := (RCur.cells4 (blk_kept (blk_drew HBK.out) h4_.kept (fun e => HNE.out e.symm))).1.2.2.2
    have n0_ := Aside0.mk (h3_); clear H; have H := n0_; clear n0_; clear h3_ h4_
    refine hK.out _ _ ⟨ke3, H⟩ (fun hHeld => ?_)
    clear hK K
    refine pu_ 6 (some 7) (bm 7 127) HT_ (by as_aux_lemma => kernel_rfl) rfl rfl (fun _ _ _ h => h) (by rfl) (by intro w'; go_simp; with_reducible rfl) (by go_simp; rfl) ?_
    refine done_ (done_of HT_.out (by as_aux_lemma => kernel_rfl)) ?_
    go_wp2
    refine bodyPost_ret (results_ct rfl _ _ gr 30 _ (0, 0) _ rfl (H.out.at 0 rfl) Try.underlying30 rfl (msg_info (rfl))) rfl (by rw [EX.out]; exact ⟨_, rfl, zero_is _, H.out.b⟩)
theorem parse_0_2 {A : Option Addr} {c : Nat} {l : List Int} {w0 : World} (hr : Kd.C (Kd.int .u8) w0 A l.length l) (hc : l.length ≤ c) (hs : l.length ≤ 1000000) (hb : isBytes l) :
    Calls Try.prog 14 #[.int .i64 0, .int .u8 2, .slice A l.length c] w0 fun en w' => ∃ cx, en = .returned (.tuple #[.agg cx, .int .i64 (parse 0 2 l).2]) ∧ IsMsg w' cx (parse 0 2 l).1 ∧ Below w0.heap.size w0 w' := by
  have HR := Aside0.mk hr
  have HC := Aside0.mk hc
  have HS := Aside0.mk hs
  have HBB := Aside0.mk hb
  clear hr hc hs hb
  go_enter Try.func14, Try.ntmps14
  go_upto_region 3 with (first | ((with_reducible refine gate_dst (N := 6) rfl ?_); refine ev_alloc rfl rfl ?_; intro gr w1 hg_ h1_ h2_; have HG_ := Aside0.mk hg_; have H1 := Aside0.mk h1_; have H2 := Aside0.mk h2_; clear hg_ h1_ h2_))
  go_upto_region 4 with (first | ((with_reducible refine gate_dst (N := 23) rfl ?_); refine QS.ev_cur rfl rfl rfl ?_; intro g w2 q1_ q2_; have HP := Aside0.mk (QS.Nw.first HR.out HC.out HS.out HBB.out HG_.out H1.out H2.out q1_ q2_); clear q1_ q2_ H1 H2 HG_))
  obtain ⟨c0, e_⟩ : ∃ z, z = (⟨l, false, 0⟩ : Cu) := ⟨_, rfl⟩
  rw [← e_] at HP
  have Ec0 := Aside0.mk e_
  clear e_
  go_upto_region 5 with (first | ((with_reducible refine gate_dst (N := 25) rfl ?_); refine ev_build ((zeroC.setIfInBounds 0 (.int .u8 (2)))) rfl (by go_simp; first | rfl | done) ?_; intro cx hcx_; have M := Aside0.mk (show ∀ W, IsMsg W cx _ from fun W => by rw [hcx_]; exact (fun W => set_code (zero_is W) (v := 2) (by decide)) W); have NL := Aside0.mk (show NilL cx by rw [hcx_]; exact (QS.zero_nil.set (by decide))); clear hcx_) | ((with_reducible refine gate_dst (N := 9) rfl ?_); refine ev_var (y := .tmp 25) rfl rfl rfl rfl rfl (M.out w0) rfl rfl ?_; intro gm w4 hg_ h1_ hb_; have hp_ := QS.Nw.new HP.out hg_ h1_ hb_ M.out NL.out; clear h1_ hb_ hg_; have n0_ := Aside0.mk hp_; clear HP hp_; have HP := n0_; clear n0_))
  clear HR HC HS HBB M NL
  obtain ⟨m0, hm0⟩ : ∃ z, z = ({ zeroM with code := 2 } : Msg) := ⟨_, rfl⟩
  replace HP : Aside0 (QS.St w0 gr g gm w4 c0 { zeroM with code := 2 }) := HP
  rw [← hm0] at HP
  have HM0 := Aside0.mk hm0
  clear hm0
  go_upto_region 26 with (first | (go_at_call 28; (with_reducible refine (span_any HP.out 2000).mono ?_); rintro en x80 ⟨rfl, hp_⟩; obtain ⟨z1, ez_⟩ : ∃ z, z = spanR 2000 m0 c0 := ⟨_, rfl⟩; rw [← ez_] at hp_; obtain ⟨c1, m1⟩ := z1; have EZ := Aside0.mk ez_; clear ez_; have n0_ := Aside0.mk hp_; clear HP hp_; have HP := n0_; clear n0_))
  replace HP : Aside0 (QS.St w0 gr g gm x80 c1 m1) := HP
  have eq_ : bodyR 0 2 m0 c0 = (c1, m1) := by rw [EZ.out]; rfl
  obtain ⟨cb, e_⟩ : ∃ z, z = bodyR 0 2 m0 c0 := ⟨_, rfl⟩
  have EBD := Aside0.mk e_
  rw [eq_] at e_
  obtain ⟨c9, m9⟩ := cb
  obtain ⟨e1_, e2_⟩ := Prod.mk.inj e_
  rw [← e1_, ← e2_] at HP
  clear e_ e1_ e2_ eq_
  go_upto_region 27 with (first | (go_at_call 35; (with_reducible refine (QS.St.fin HP.out).mono ?_); rintro en x61 ⟨rfl, hp_⟩; obtain ⟨c10, ec_⟩ : ∃ z, z = c9.fin := ⟨_, rfl⟩; rw [← ec_] at hp_; have Ec10 := Aside0.mk ec_; clear ec_; have n0_ := Aside0.mk hp_; clear HP hp_; have HP := n0_; clear n0_))
  have he1 : parse 0 2 l = if c10.e ≠ 0 then (zeroM, c10.e) else (m9, 0) := by
    have e2 : bodyR 0 2 { zeroM with code := 2 } (cu l) = (c9, m9) := by rw [EBD.out, HM0.out, Ec0.out]; rfl
    unfold parse
    rw [if_neg (by decide), if_neg (by decide), e2, Ec10.out]
  obtain ⟨v0, v1, v2, hbk⟩ := QS.St.blk HP.out
  have ke := (RCur.cells4 hbk).1.2.2.2
  have HBK := Aside0.mk hbk
  have HNE := Aside0.mk HP.out.h2.2.1
  clear hbk
  by_cases h9 : c10.e = 0
  · have ex_ : parse 0 2 l = (m9, 0) := by rw [he1, if_neg (fun h => h h9)]
    have EX := Aside0.mk ex_
    have g1 : (c10.e != 0) = false := by rw [h9]; rfl
    have g2 : (c10.e == 0) = true := by rw [h9]; rfl
    clear h9 ex_ he1
    obtain ⟨cx, h_, hz_, hm_⟩ := QS.St.held2 HP.out
    have H := Aside0.mk h_
    have HZ := Aside0.mk hz_
    have HM := Aside0.mk hm_
    have HB := Aside0.mk HP.out.b
    clear h_ hz_ hm_ HP
    go_wp2_with (first | ((with_reducible refine gate_dst (N := 112) rfl ?_); refine ev_load (x := .tmp 9) rfl rfl rfl H.out (i := 1) rfl (HZ.out) ?_) | ((with_reducible refine gate_op (u := .store 30 (.tmp 6) (.tmp 112)) rfl ?_); refine ev_store rfl rfl rfl rfl H.out (i := 0) rfl rfl (HM.out _ ⟨rfl, rfl, rfl, Kept.refl _ _⟩) ?_; intro x91 h3_ h4_; have HE := Aside0.mk (HM.out _ h4_); clear h4_; have n0_ := Aside0.mk (h3_); clear H; have H := n0_; clear n0_; clear h3_))
    refine bodyPost_ret (results_ct rfl _ _ gr 30 _ (0, 0) _ rfl (H.out.at 0 rfl) Try.underlying30 rfl (msg_info (HZ.out))) rfl (by rw [EX.out]; exact ⟨_, rfl, HE.out, H.out.b⟩)
  · have ex_ : parse 0 2 l = (zeroM, c10.e) := by rw [he1, if_pos h9]
    have EX := Aside0.mk ex_
    have g1 : (c10.e != 0) = true := by simpa using h9
    have g2 : (c10.e == 0) = false := by simpa using h9
    clear h9 ex_ he1
    have H := Aside0.mk (QS.St.held HP.out)
    clear HP
    go_upto_region 28 with (fail)
    clear ke
    refine start_ (n := 7) (S := fun w' => w'.cell? ⟨g, 3, none⟩ = some (.int .i64 c10.e) ∧ Aside0 (Held w0 [(gr, zeroC)] w')) (ds := []) (bm 7 0) (by as_aux_lemma => kernel_rfl) rfl (by as_aux_lemma => kernel_rfl) ⟨((RCur.cells4 (blk_drew HBK.out)).1.2.2.2), (Aside0.mk H.out.drew)⟩ (fun hHeld => ?_)
    refine with_tabW rparse8.tab28 rparse8.bits28 (fun HT_ HW_ => ?_)
    refine pu_ 0 (some 107) (bm 7 1) HT_ (by as_aux_lemma => kernel_rfl) rfl rfl (fun _ _ _ h => h) (by rfl) (by intro w'; go_simp; with_reducible rfl) (by go_simp; rfl) ?_
    refine pu_ 1 (some 108) (bm 7 3) HT_ (by as_aux_lemma => kernel_rfl) rfl rfl (fun _ _ _ h => h) (by rfl) (by intro w'; go_simp; with_reducible rfl) (by go_simp; rfl) ?_
    refine pu_ 2 (some 109) (bm 7 7) HT_ (by as_aux_lemma => kernel_rfl) rfl rfl (fun _ _ _ h => h) (by rfl) (by intro w'; go_simp; with_reducible rfl) (by go_simp; rfl) ?_
    refine pu_ 3 (some 110) (bm 7 15) HT_ (by as_aux_lemma => kernel_rfl) rfl rfl (fun _ _ _ h => h) (by rfl) (by intro w'; go_simp; with_reducible rfl) (by go_simp; rfl) ?_
    refine tk_ 4 (some 111) (bm 7 31) HT_ HW_ hHeld (by as_aux_lemma => kernel_rfl) rfl rfl (fun _ _ _ h => h) (by rfl) (by rintro w' ⟨s0, s1⟩; go_simp; with_reducible rfl) (by go_simp; rfl) ?_
    refine one_ (i := 5) (N := none) (bm 7 63) rfl rfl (one_of HT_.out (by as_aux_lemma => kernel_rfl)) (by as_aux_lemma => decide) (fun K hK => ?_)
    have Hd_ := Aside0.mk H.out.drew
    clear H
    have H := Hd_
    clear Hd_
    refine store_ (x := .tmp 6) (y := .tmp 107) (by rfl) rfl rfl rfl rfl H.out (i := 0) rfl (rfl) (zero_is w0) ?_
    intro x97 h3_ h4_
    have ke3 := (RCur.cells4 (blk_kept (blk_drew HBK.out) h4_.kept (fun e => HNE.out e.symm))).1.2.2.2
    have n0_ := Aside0.mk (h3_); clear H; have H := n0_; clear n0_; clear h3_ h4_
    refine hK.out _ _ ⟨ke3, H⟩ (fun hHeld => ?_)
    clear hK K
    refine pu_ 6 (some 7) (bm 7 127) HT_ (by as_aux_lemma => kernel_rfl) rfl rfl (fun _ _ _ h => h) (by rfl) (by intro w'; go_simp; with_reducible rfl) (by go_simp; rfl) ?_
    refine done_ (done_of HT_.out (by as_aux_lemma => kernel_rfl)) ?_
    go_wp2
    refine bodyPost_ret (results_ct rfl _ _ gr 30 _ (0, 0) _ rfl (H.out.at 0 rfl) Try.underlying30 rfl (msg_info (rfl))) rfl (by rw [EX.out]; exact ⟨_, rfl, zero_is _, H.out.b⟩)
theorem parse_0_5_1 {A : Option Addr} {c : Nat} {l : List Int} {w0 : World} (hr : Kd.C (Kd.int .u8) w0 A l.length l) (hc : l.length ≤ c) (hs : l.length ≤ 1000000) (hb : isBytes l) (hg : (⟨l, false, 0⟩ : Cu).wordS.wordV = 0) :
    Calls Try.prog 14 #[.int .i64 0, .int .u8 5, .slice A l.length c] w0 fun en w' => ∃ cx, en = .returned (.tuple #[.agg cx, .int .i64 (parse 0 5 l).2]) ∧ IsMsg w' cx (parse 0 5 l).1 ∧ Below w0.heap.size w0 w' := by
  have HG := Aside0.mk hg
  clear hg
  have HR := Aside0.mk hr
  have HC := Aside0.mk hc
  have HS := Aside0.mk hs
  have HBB := Aside0.mk hb
  clear hr hc hs hb
  go_enter Try.func14, Try.ntmps14
  go_upto_region 3 with (first | ((with_reducible refine gate_dst (N := 6) rfl ?_); refine ev_alloc rfl rfl ?_; intro gr w1 hg_ h1_ h2_; have HG_ := Aside0.mk hg_; have H1 := Aside0.mk h1_; have H2 := Aside0.mk h2_; clear hg_ h1_ h2_))
  go_upto_region 4 with (first | ((with_reducible refine gate_dst (N := 23) rfl ?_); refine QS.ev_cur rfl rfl rfl ?_; intro g w2 q1_ q2_; have HP := Aside0.mk (QS.Nw.first HR.out HC.out HS.out HBB.out HG_.out H1.out H2.out q1_ q2_); clear q1_ q2_ H1 H2 HG_))
  obtain ⟨c0, e_⟩ : ∃ z, z = (⟨l, false, 0⟩ : Cu) := ⟨_, rfl⟩
  rw [← e_] at HP
  have Ec0 := Aside0.mk e_
  clear e_
  go_upto_region 5 with (first | ((with_reducible refine gate_dst (N := 25) rfl ?_); refine ev_build ((zeroC.setIfInBounds 0 (.int .u8 (5)))) rfl (by go_simp; first | rfl | done) ?_; intro cx hcx_; have M := Aside0.mk (show ∀ W, IsMsg W cx _ from fun W => by rw [hcx_]; exact (fun W => set_code (zero_is W) (v := 5) (by decide)) W); have NL := Aside0.mk (show NilL cx by rw [hcx_]; exact (QS.zero_nil.set (by decide))); clear hcx_) | ((with_reducible refine gate_dst (N := 9) rfl ?_); refine ev_var (y := .tmp 25) rfl rfl rfl rfl rfl (M.out w0) rfl rfl ?_; intro gm w4 hg_ h1_ hb_; have hp_ := QS.Nw.new HP.out hg_ h1_ hb_ M.out NL.out; clear h1_ hb_ hg_; have n0_ := Aside0.mk hp_; clear HP hp_; have HP := n0_; clear n0_))
  clear HR HC HS HBB M NL
  obtain ⟨m0, hm0⟩ : ∃ z, z = ({ zeroM with code := 5 } : Msg) := ⟨_, rfl⟩
  replace HP : Aside0 (QS.St w0 gr g gm w4 c0 { zeroM with code := 5 }) := HP
  rw [← hm0] at HP
  have HM0 := Aside0.mk hm0
  clear hm0
  go_upto_region 16 with (first | (go_at_call 32; obtain ⟨l0, h0⟩ := Cu.wordV_bd (QS.St.good HP.out); (with_reducible refine (QS.St.word HP.out).mono ?_); rintro en x1 ⟨rfl, hp_⟩; obtain ⟨c1, ec_⟩ : ∃ z, z = c0.wordS := ⟨_, rfl⟩; rw [← ec_] at hp_; have Ec1 := Aside0.mk ec_; clear ec_; obtain ⟨kaddr, faddr⟩ := QS.St.at_addr hp_; have n0_ := Aside0.mk hp_; clear HP hp_; have HP := n0_; clear n0_))
  have hp_ := HP.out.put_addr ⟨l0, h0⟩
  have n0_ := Aside0.mk hp_
  clear HP hp_
  have HP := n0_
  clear n0_
  go_upto_region 17 with (first | (go_at_call 32; obtain ⟨l1, h1⟩ := Cu.wordV_bd (QS.St.good HP.out); (with_reducible refine (QS.St.word HP.out).mono ?_); rintro en x2 ⟨rfl, hp_⟩; obtain ⟨c2, ec_⟩ : ∃ z, z = c1.wordS := ⟨_, rfl⟩; rw [← ec_] at hp_; have Ec2 := Aside0.mk ec_; clear ec_; obtain ⟨kvalue, fvalue⟩ := QS.St.at_value hp_; have n0_ := Aside0.mk hp_; clear HP hp_; have HP := n0_; clear n0_))
  have hp_ := HP.out.put_value ⟨l1, h1⟩
  obtain ⟨kvalue, fvalue⟩ := QS.St.at_value hp_
  have n0_ := Aside0.mk hp_
  clear HP hp_
  have HP := n0_
  clear n0_
  have hz : (c1.wordV == 0) = true := beq_iff_eq.2 (by have := HG.out; rw [← Ec0.out, ← Ec1.out] at this; omega)
  have EB := Aside0.mk (show (c1.wordV == 0 || c1.wordV == 65280) = (true) from by rw [hz]; rfl)
  go_upto_region 26 with (first | (go_at_call 30; (with_reducible refine (QS.St.need HP.out (true) 6).mono ?_); rintro en x3 ⟨rfl, hp_⟩; rw [← EB.out] at hp_; obtain ⟨c3, ec_⟩ : ∃ z, z = c2.need (c1.wordV == 0 || c1.wordV == 65280) 6 := ⟨_, rfl⟩; rw [← ec_] at hp_; have Ec3 := Aside0.mk ec_; clear ec_; have n0_ := Aside0.mk hp_; clear HP hp_; have HP := n0_; clear n0_))
  clear hz
  have eq_ : bodyR 0 5 m0 c0 = (c3, { ({ m0 with addr := c0.wordV } : Msg) with value := c1.wordV }) := by
    rw [Ec3.out, Ec2.out, Ec1.out]
    rfl
  obtain ⟨cb, e_⟩ : ∃ z, z = bodyR 0 5 m0 c0 := ⟨_, rfl⟩
  have EBD := Aside0.mk e_
  rw [eq_] at e_
  obtain ⟨c9, m9⟩ := cb
  obtain ⟨e1_, e2_⟩ := Prod.mk.inj e_
  rw [← e1_, ← e2_] at HP
  clear e_ e1_ e2_ eq_
  go_upto_region 27 with (first | (go_at_call 35; (with_reducible refine (QS.St.fin HP.out).mono ?_); rintro en x61 ⟨rfl, hp_⟩; obtain ⟨c10, ec_⟩ : ∃ z, z = c9.fin := ⟨_, rfl⟩; rw [← ec_] at hp_; have Ec10 := Aside0.mk ec_; clear ec_; have n0_ := Aside0.mk hp_; clear HP hp_; have HP := n0_; clear n0_))
  have he1 : parse 0 5 l = if c10.e ≠ 0 then (zeroM, c10.e) else (m9, 0) := by
    have e2 : bodyR 0 5 { zeroM with code := 5 } (cu l) = (c9, m9) := by rw [EBD.out, HM0.out, Ec0.out]; rfl
    unfold parse
    rw [if_neg (by decide), if_neg (by decide), e2, Ec10.out]
  obtain ⟨v0, v1, v2, hbk⟩ := QS.St.blk HP.out
  have ke := (RCur.cells4 hbk).1.2.2.2
  have HBK := Aside0.mk hbk
  have HNE := Aside0.mk HP.out.h2.2.1
  clear hbk
  by_cases h9 : c10.e = 0
  · have ex_ : parse 0 5 l = (m9, 0) := by rw [he1, if_neg (fun h => h h9)]
    have EX := Aside0.mk ex_
    have g1 : (c10.e != 0) = false := by rw [h9]; rfl
    have g2 : (c10.e == 0) = true := by rw [h9]; rfl
    clear h9 ex_ he1
    obtain ⟨cx, h_, hz_, hm_⟩ := QS.St.held2 HP.out
    have H := Aside0.mk h_
    have HZ := Aside0.mk hz_
    have HM := Aside0.mk hm_
    have HB := Aside0.mk HP.out.b
    clear h_ hz_ hm_ HP
    go_wp2_with (first | ((with_reducible refine gate_dst (N := 112) rfl ?_); refine ev_load (x := .tmp 9) rfl rfl rfl H.out (i := 1) rfl (HZ.out) ?_) | ((with_reducible refine gate_op (u := .store 30 (.tmp 6) (.tmp 112)) rfl ?_); refine ev_store rfl rfl rfl rfl H.out (i := 0) rfl rfl (HM.out _ ⟨rfl, rfl, rfl, Kept.refl _ _⟩) ?_; intro x91 h3_ h4_; have HE := Aside0.mk (HM.out _ h4_); clear h4_; have n0_ := Aside0.mk (h3_); clear H; have H := n0_; clear n0_; clear h3_))
    refine bodyPost_ret (results_ct rfl _ _ gr 30 _ (0, 0) _ rfl (H.out.at 0 rfl) Try.underlying30 rfl (msg_info (HZ.out))) rfl (by rw [EX.out]; exact ⟨_, rfl, HE.out, H.out.b⟩)
  · have ex_ : parse 0 5 l = (zeroM, c10.e) := by rw [he1, if_pos h9]
    have EX := Aside0.mk ex_
    have g1 : (c10.e != 0) = true := by simpa using h9
    have g2 : (c10.e == 0) = false := by simpa using h9
    clear h9 ex_ he1
    have H := Aside0.mk (QS.St.held HP.out)
    clear HP
    go_upto_region 28 with (fail)
    clear ke
    refine start_ (n := 7) (S := fun w' => w'.cell? ⟨g, 3, none⟩ = some (.int .i64 c10.e) ∧ Aside0 (Held w0 [(gr, zeroC)] w')) (ds := []) (bm 7 0) (by as_aux_lemma => kernel_rfl) rfl (by as_aux_lemma => kernel_rfl) ⟨((RCur.cells4 (blk_drew HBK.out)).1.2.2.2), (Aside0.mk H.out.drew)⟩ (fun hHeld => ?_)
    refine with_tabW rparse8.tab28 rparse8.bits28 (fun HT_ HW_ => ?_)
    refine pu_ 0 (some 107) (bm 7 1) HT_ (by as_aux_lemma => kernel_rfl) rfl rfl (fun _ _ _ h => h) (by rfl) (by intro w'; go_simp; with_reducible rfl) (by go_simp; rfl) ?_
    refine pu_ 1 (some 108) (bm 7 3) HT_ (by as_aux_lemma => kernel_rfl) rfl rfl (fun _ _ _ h => h) (by rfl) (by intro w'; go_simp; with_reducible rfl) (by go_simp; rfl) ?_
    refine pu_ 2 (some 109) (bm 7 7) HT_ (by as_aux_lemma => kernel_rfl) rfl rfl (fun _ _ _ h => h) (by rfl) (by intro w'; go_simp; with_reducible rfl) (by go_simp; rfl) ?_
    refine pu_ 3 (some 110) (bm 7 15) HT_ (by as_aux_lemma => kernel_rfl) rfl rfl (fun _ _ _ h => h) (by rfl) (by intro w'; go_simp; with_reducible rfl) (by go_simp; rfl) ?_
    refine tk_ 4 (some 111) (bm 7 31) HT_ HW_ hHeld (by as_aux_lemma => kernel_rfl) rfl rfl (fun _ _ _ h => h) (by rfl) (by rintro w' ⟨s0, s1⟩; go_simp; with_reducible rfl) (by go_simp; rfl) ?_
    refine one_ (i := 5) (N := none) (bm 7 63) rfl rfl (one_of HT_.out (by as_aux_lemma => kernel_rfl)) (by as_aux_lemma => decide) (fun K hK => ?_)
    have Hd_ := Aside0.mk H.out.drew
    clear H
    have H := Hd_
    clear Hd_
    refine store_ (x := .tmp 6) (y := .tmp 107) (by rfl) rfl rfl rfl rfl H.out (i := 0) rfl (rfl) (zero_is w0) ?_
    intro x97 h3_ h4_
    have ke3 := (RCur.cells4 (blk_kept (blk_drew HBK.out) h4_.kept (fun e => HNE.out e.symm))).1.2.2.2
    have n0_ := Aside0.mk (h3_); clear H; have H := n0_; clear n0_; clear h3_ h4_
    refine hK.out _ _ ⟨ke3, H⟩ (fun hHeld => ?_)
    clear hK K
    refine pu_ 6 (some 7) (bm 7 127) HT_ (by as_aux_lemma => kernel_rfl) rfl rfl (fun _ _ _ h => h) (by rfl) (by intro w'; go_simp; with_reducible rfl) (by go_simp; rfl) ?_
    refine done_ (done_of HT_.out (by as_aux_lemma => kernel_rfl)) ?_
    go_wp2
    refine bodyPost_ret (results_ct rfl _ _ gr 30 _ (0, 0) _ rfl (H.out.at 0 rfl) Try.underlying30 rfl (msg_info (rfl))) rfl (by rw [EX.out]; exact ⟨_, rfl, zero_is _, H.out.b⟩)
theorem parse_0_5_0 {A : Option Addr} {c : Nat} {l : List Int} {w0 : World} (hr : Kd.C (Kd.int .u8) w0 A l.length l) (hc : l.length ≤ c) (hs : l.length ≤ 1000000) (hb : isBytes l) (hg : (⟨l, false, 0⟩ : Cu).wordS.wordV ≠ 0) :
    Calls Try.prog 14 #[.int .i64 0, .int .u8 5, .slice A l.length c] w0 fun en w' => ∃ cx, en = .returned (.tuple #[.agg cx, .int .i64 (parse 0 5 l).2]) ∧ IsMsg w' cx (parse 0 5 l).1 ∧ Below w0.heap.size w0 w' := by
  have HG := Aside0.mk hg
  clear hg
  have HR := Aside0.mk hr
  have HC := Aside0.mk hc
  have HS := Aside0.mk hs
  have HBB := Aside0.mk hb
  clear hr hc hs hb
  go_enter Try.func14, Try.ntmps14
  go_upto_region 3 with (first | ((with_reducible refine gate_dst (N := 6) rfl ?_); refine ev_alloc rfl rfl ?_; intro gr w1 hg_ h1_ h2_; have HG_ := Aside0.mk hg_; have H1 := Aside0.mk h1_; have H2 := Aside0.mk h2_; clear hg_ h1_ h2_))
  go_upto_region 4 with (first | ((with_reducible refine gate_dst (N := 23) rfl ?_); refine QS.ev_cur rfl rfl rfl ?_; intro g w2 q1_ q2_; have HP := Aside0.mk (QS.Nw.first HR.out HC.out HS.out HBB.out HG_.out H1.out H2.out q1_ q2_); clear q1_ q2_ H1 H2 HG_))
  obtain ⟨c0, e_⟩ : ∃ z, z = (⟨l, false, 0⟩ : Cu) := ⟨_, rfl⟩
  rw [← e_] at HP
  have Ec0 := Aside0.mk e_
  clear e_
  go_upto_region 5 with (first | ((with_reducible refine gate_dst (N := 25) rfl ?_); refine ev_build ((zeroC.setIfInBounds 0 (.int .u8 (5)))) rfl (by go_simp; first | rfl | done) ?_; intro cx hcx_; have M := Aside0.mk (show ∀ W, IsMsg W cx _ from fun W => by rw [hcx_]; exact (fun W => set_code (zero_is W) (v := 5) (by decide)) W); have NL := Aside0.mk (show NilL cx by rw [hcx_]; exact (QS.zero_nil.set (by decide))); clear hcx_) | ((with_reducible refine gate_dst (N := 9) rfl ?_); refine ev_var (y := .tmp 25) rfl rfl rfl rfl rfl (M.out w0) rfl rfl ?_; intro gm w4 hg_ h1_ hb_; have hp_ := QS.Nw.new HP.out hg_ h1_ hb_ M.out NL.out; clear h1_ hb_ hg_; have n0_ := Aside0.mk hp_; clear HP hp_; have HP := n0_; clear n0_))
  clear HR HC HS HBB M NL
  obtain ⟨m0, hm0⟩ : ∃ z, z = ({ zeroM with code := 5 } : Msg) := ⟨_, rfl⟩
  replace HP : Aside0 (QS.St w0 gr g gm w4 c0 { zeroM with code := 5 }) := HP
  rw [← hm0] at HP
  have HM0 := Aside0.mk hm0
  clear hm0
  go_upto_region 16 with (first | (go_at_call 32; obtain ⟨l0, h0⟩ := Cu.wordV_bd (QS.St.good HP.out); (with_reducible refine (QS.St.word HP.out).mono ?_); rintro en x1 ⟨rfl, hp_⟩; obtain ⟨c1, ec_⟩ : ∃ z, z = c0.wordS := ⟨_, rfl⟩; rw [← ec_] at hp_; have Ec1 := Aside0.mk ec_; clear ec_; obtain ⟨kaddr, faddr⟩ := QS.St.at_addr hp_; have n0_ := Aside0.mk hp_; clear HP hp_; have HP := n0_; clear n0_))
  have hp_ := HP.out.put_addr ⟨l0, h0⟩
  have n0_ := Aside0.mk hp_
  clear HP hp_
  have HP := n0_
  clear n0_
  go_upto_region 17 with (first | (go_at_call 32; obtain ⟨l1, h1⟩ := Cu.wordV_bd (QS.St.good HP.out); (with_reducible refine (QS.St.word HP.out).mono ?_); rintro en x2 ⟨rfl, hp_⟩; obtain ⟨c2, ec_⟩ : ∃ z, z = c1.wordS := ⟨_, rfl⟩; rw [← ec_] at hp_; have Ec2 := Aside0.mk ec_; clear ec_; obtain ⟨kvalue, fvalue⟩ := QS.St.at_value hp_; have n0_ := Aside0.mk hp_; clear HP hp_; have HP := n0_; clear n0_))
  have hp_ := HP.out.put_value ⟨l1, h1⟩
  obtain ⟨kvalue, fvalue⟩ := QS.St.at_value hp_
  have n0_ := Aside0.mk hp_
  clear HP hp_
  have HP := n0_
  clear n0_
  have hz : (c1.wordV == 0) = false := beq_eq_false_iff_ne.2 (by have := HG.out; rw [← Ec0.out, ← Ec1.out] at this; omega)
  have EB := Aside0.mk (show (c1.wordV == 0 || c1.wordV == 65280) = (c1.wordV == 65280) from by rw [hz]; rfl)
  go_upto_region 26 with (first | (go_at_call 30; (with_reducible refine (QS.St.need HP.out (c1.wordV == 65280) 6).mono ?_); rintro en x3 ⟨rfl, hp_⟩; rw [← EB.out] at hp_; obtain ⟨c3, ec_⟩ : ∃ z, z = c2.need (c1.wordV == 0 || c1.wordV == 65280) 6 := ⟨_, rfl⟩; rw [← ec_] at hp_; have Ec3 := Aside0.mk ec_; clear ec_; have n0_ := Aside0.mk hp_; clear HP hp_; have HP := n0_; clear n0_))
  clear hz
  have eq_ : bodyR 0 5 m0 c0 = (c3, { ({ m0 with addr := c0.wordV } : Msg) with value := c1.wordV }) := by
    rw [Ec3.out, Ec2.out, Ec1.out]
    rfl
  obtain ⟨cb, e_⟩ : ∃ z, z = bodyR 0 5 m0 c0 := ⟨_, rfl⟩
  have EBD := Aside0.mk e_
  rw [eq_] at e_
  obtain ⟨c9, m9⟩ := cb
  obtain ⟨e1_, e2_⟩ := Prod.mk.inj e_
  rw [← e1_, ← e2_] at HP
  clear e_ e1_ e2_ eq_
  go_upto_region 27 with (first | (go_at_call 35; (with_reducible refine (QS.St.fin HP.out).mono ?_); rintro en x61 ⟨rfl, hp_⟩; obtain ⟨c10, ec_⟩ : ∃ z, z = c9.fin := ⟨_, rfl⟩; rw [← ec_] at hp_; have Ec10 := Aside0.mk ec_; clear ec_; have n0_ := Aside0.mk hp_; clear HP hp_; have HP := n0_; clear n0_))
  have he1 : parse 0 5 l = if c10.e ≠ 0 then (zeroM, c10.e) else (m9, 0) := by
    have e2 : bodyR 0 5 { zeroM with code := 5 } (cu l) = (c9, m9) := by rw [EBD.out, HM0.out, Ec0.out]; rfl
    unfold parse
    rw [if_neg (by decide), if_neg (by decide), e2, Ec10.out]
  obtain ⟨v0, v1, v2, hbk⟩ := QS.St.blk HP.out
  have ke := (RCur.cells4 hbk).1.2.2.2
  have HBK := Aside0.mk hbk
  have HNE := Aside0.mk HP.out.h2.2.1
  clear hbk
  by_cases h9 : c10.e = 0
  · have ex_ : parse 0 5 l = (m9, 0) := by rw [he1, if_neg (fun h => h h9)]
    have EX := Aside0.mk ex_
    have g1 : (c10.e != 0) = false := by rw [h9]; rfl
    have g2 : (c10.e == 0) = true := by rw [h9]; rfl
    clear h9 ex_ he1
    obtain ⟨cx, h_, hz_, hm_⟩ := QS.St.held2 HP.out
    have H := Aside0.mk h_
    have HZ := Aside0.mk hz_
    have HM := Aside0.mk hm_
    have HB := Aside0.mk HP.out.b
    clear h_ hz_ hm_ HP
    go_wp2_with (first | ((with_reducible refine gate_dst (N := 112) rfl ?_); refine ev_load (x := .tmp 9) rfl rfl rfl H.out (i := 1) rfl (HZ.out) ?_) | ((with_reducible refine gate_op (u := .store 30 (.tmp 6) (.tmp 112)) rfl ?_); refine ev_store rfl rfl rfl rfl H.out (i := 0) rfl rfl (HM.out _ ⟨rfl, rfl, rfl, Kept.refl _ _⟩) ?_; intro x91 h3_ h4_; have HE := Aside0.mk (HM.out _ h4_); clear h4_; have n0_ := Aside0.mk (h3_); clear H; have H := n0_; clear n0_; clear h3_))
    refine bodyPost_ret (results_ct rfl _ _ gr 30 _ (0, 0) _ rfl (H.out.at 0 rfl) Try.underlying30 rfl (msg_info (HZ.out))) rfl (by rw [EX.out]; exact ⟨_, rfl, HE.out, H.out.b⟩)
  · have ex_ : parse 0 5 l = (zeroM, c10.e) := by rw [he1, if_pos h9]
    have EX := Aside0.mk ex_
    have g1 : (c10.e != 0) = true := by simpa using h9
    have g2 : (c10.e == 0) = false := by simpa using h9
    clear h9 ex_ he1
    have H := Aside0.mk (QS.St.held HP.out)
    clear HP
    go_upto_region 28 with (fail)
    clear ke
    refine start_ (n := 7) (S := fun w' => w'.cell? ⟨g, 3, none⟩ = some (.int .i64 c10.e) ∧ Aside0 (Held w0 [(gr, zeroC)] w')) (ds := []) (bm 7 0) (by as_aux_lemma => kernel_rfl) rfl (by as_aux_lemma => kernel_rfl) ⟨((RCur.cells4 (blk_drew HBK.out)).1.2.2.2), (Aside0.mk H.out.drew)⟩ (fun hHeld => ?_)
    refine with_tabW rparse8.tab28 rparse8.bits28 (fun HT_ HW_ => ?_)
    refine pu_ 0 (some 107) (bm 7 1) HT_ (by as_aux_lemma => kernel_rfl) rfl rfl (fun _ _ _ h => h) (by rfl) (by intro w'; go_simp; with_reducible rfl) (by go_simp; rfl) ?_
    refine pu_ 1 (some 108) (bm 7 3) HT_ (by as_aux_lemma => kernel_rfl) rfl rfl (fun _ _ _ h => h) (by rfl) (by intro w'; go_simp; with_reducible rfl) (by go_simp; rfl) ?_
    refine pu_ 2 (some 109) (bm 7 7) HT_ (by as_aux_lemma => kernel_rfl) rfl rfl (fun _ _ _ h => h) (by rfl) (by intro w'; go_simp; with_reducible rfl) (by go_simp; rfl) ?_
    refine pu_ 3 (some 110) (bm 7 15) HT_ (by as_aux_lemma => kernel_rfl) rfl rfl (fun _ _ _ h => h) (by rfl) (by intro w'; go_simp; with_reducible rfl) (by go_simp; rfl) ?_
    refine tk_ 4 (some 111) (bm 7 31) HT_ HW_ hHeld (by as_aux_lemma => kernel_rfl) rfl rfl (fun _ _ _ h => h) (by rfl) (by rintro w' ⟨s0, s1⟩; go_simp; with_reducible rfl) (by go_simp; rfl) ?_
    refine one_ (i := 5) (N := none) (bm 7 63) rfl rfl (one_of HT_.out (by as_aux_lemma => kernel_rfl)) (by as_aux_lemma => decide) (fun K hK => ?_)
    have Hd_ := Aside0.mk H.out.drew
    clear H
    have H := Hd_
    clear Hd_
    refine store_ (x := .tmp 6) (y := .tmp 107) (by rfl) rfl rfl rfl rfl H.out (i := 0) rfl (rfl) (zero_is w0) ?_
    intro x97 h3_ h4_
    have ke3 := (RCur.cells4 (blk_kept (blk_drew HBK.out) h4_.kept (fun e => HNE.out e.symm))).1.2.2.2
    have n0_ := Aside0.mk (h3_); clear H; have H := n0_; clear n0_; clear h3_ h4_
    refine hK.out _ _ ⟨ke3, H⟩ (fun hHeld => ?_)
    clear hK K
    refine pu_ 6 (some 7) (bm 7 127) HT_ (by as_aux_lemma => kernel_rfl) rfl rfl (fun _ _ _ h => h) (by rfl) (by intro w'; go_simp; with_reducible rfl) (by go_simp; rfl) ?_
    refine done_ (done_of HT_.out (by as_aux_lemma => kernel_rfl)) ?_
    go_wp2
    refine bodyPost_ret (results_ct rfl _ _ gr 30 _ (0, 0) _ rfl (H.out.at 0 rfl) Try.underlying30 rfl (msg_info (rfl))) rfl (by rw [EX.out]; exact ⟨_, rfl, zero_is _, H.out.b⟩)
theorem parse_0_15 {A : Option Addr} {c : Nat} {l : List Int} {w0 : World} (hr : Kd.C (Kd.int .u8) w0 A l.length l) (hc : l.length ≤ c) (hs : l.length ≤ 1000000) (hb : isBytes l) :
    Calls Try.prog 14 #[.int .i64 0, .int .u8 15, .slice A l.length c] w0 fun en w' => ∃ cx, en = .returned (.tuple #[.agg cx, .int .i64 (parse 0 15 l).2]) ∧ IsMsg w' cx (parse 0 15 l).1 ∧ Below w0.heap.size w0 w' := by
  have HR := Aside0.mk hr
  have HC := Aside0.mk hc
  have HS := Aside0.mk hs
  have HBB := Aside0.mk hb
  clear hr hc hs hb
  go_enter Try.func14, Try.ntmps14
  go_upto_region 3 with (first | ((with_reducible refine gate_dst (N := 6) rfl ?_); refine ev_alloc rfl rfl ?_; intro gr w1 hg_ h1_ h2_; have HG_ := Aside0.mk hg_; have H1 := Aside0.mk h1_; have H2 := Aside0.mk h2_; clear hg_ h1_ h2_))
  go_upto_region 4 with (first | ((with_reducible refine gate_dst (N := 23) rfl ?_); refine QS.ev_cur rfl rfl rfl ?_; intro g w2 q1_ q2_; have HP := Aside0.mk (QS.Nw.first HR.out HC.out HS.out HBB.out HG_.out H1.out H2.out q1_ q2_); clear q1_ q2_ H1 H2 HG_))
  obtain ⟨c0, e_⟩ : ∃ z, z = (⟨l, false, 0⟩ : Cu) := ⟨_, rfl⟩
  rw [← e_] at HP
  have Ec0 := Aside0.mk e_
  clear e_
  go_upto_region 5 with (first | ((with_reducible refine gate_dst (N := 25) rfl ?_); refine ev_build ((zeroC.setIfInBounds 0 (.int .u8 (15)))) rfl (by go_simp; first | rfl | done) ?_; intro cx hcx_; have M := Aside0.mk (show ∀ W, IsMsg W cx _ from fun W => by rw [hcx_]; exact (fun W => set_code (zero_is W) (v := 15) (by decide)) W); have NL := Aside0.mk (show NilL cx by rw [hcx_]; exact (QS.zero_nil.set (by decide))); clear hcx_) | ((with_reducible refine gate_dst (N := 9) rfl ?_); refine ev_var (y := .tmp 25) rfl rfl rfl rfl rfl (M.out w0) rfl rfl ?_; intro gm w4 hg_ h1_ hb_; have hp_ := QS.Nw.new HP.out hg_ h1_ hb_ M.out NL.out; clear h1_ hb_ hg_; have n0_ := Aside0.mk hp_; clear HP hp_; have HP := n0_; clear n0_))
  clear HR HC HS HBB M NL
  obtain ⟨m0, hm0⟩ : ∃ z, z = ({ zeroM with code := 15 } : Msg) := ⟨_, rfl⟩
  replace HP : Aside0 (QS.St w0 gr g gm w4 c0 { zeroM with code := 15 }) := HP
  rw [← hm0] at HP
  have HM0 := Aside0.mk hm0
  clear hm0
  go_upto_region 20 with (first | (go_at_call 28; (with_reducible refine (span_any HP.out 1968).mono ?_); rintro en x80 ⟨rfl, hp_⟩; obtain ⟨z1, ez_⟩ : ∃ z, z = spanR 1968 m0 c0 := ⟨_, rfl⟩; rw [← ez_] at hp_; obtain ⟨c1, m1⟩ := z1; have EZ := Aside0.mk ez_; clear ez_; have n0_ := Aside0.mk hp_; clear HP hp_; have HP := n0_; clear n0_))
  replace HP : Aside0 (QS.St w0 gr g gm x80 c1 m1) := HP
  obtain ⟨bc0, bc1⟩ := (goodM_num (QS.St.msg HP.out)).1.2.2.2.1
  go_upto_region 22 with (first | (go_at_call 29; obtain ⟨l1, h1⟩ := Cu.byteV_bd (QS.St.good HP.out); (with_reducible refine (QS.St.byte HP.out).mono ?_); rintro en x1 ⟨rfl, hp_⟩; obtain ⟨c2, ec_⟩ : ∃ z, z = c1.byteS := ⟨_, rfl⟩; rw [← ec_] at hp_; have Ec2 := Aside0.mk ec_; clear ec_; have n0_ := Aside0.mk hp_; clear HP hp_; have HP := n0_; clear n0_))
  have wk := wrap64_id (x := c1.byteV) (by omega) (by omega)
  have wkb : IntKind.i64.wrap c1.byteV = c1.byteV := by rw [i64_w]; exact wk
  have wk4 := wrap64_id (x := m1.count) (by omega) (by omega)
  have wk4b : IntKind.i64.wrap m1.count = m1.count := by rw [i64_w]; exact wk4
  obtain ⟨kcount, fcount⟩ := QS.St.at_count HP.out
  go_upto_region 23 with (first | (go_at_call 33; (with_reducible refine (rmany_c ⟨bc0, bc1⟩ _).mono ?_); rintro en x81 ⟨rfl, hb_⟩; have n0_ := Aside0.mk (HP.out.below hb_); clear HP hb_; have HP := n0_; clear n0_) | (go_at_call 30; (with_reducible refine (QS.St.need HP.out (c1.byteV == (bytesN m1.count.toNat : Int)) 5).mono ?_); rintro en x2 ⟨rfl, hp_⟩; obtain ⟨c3, ec_⟩ : ∃ z, z = c2.need (c1.byteV == (bytesN m1.count.toNat : Int)) 5 := ⟨_, rfl⟩; rw [← ec_] at hp_; have Ec3 := Aside0.mk ec_; clear ec_; have n0_ := Aside0.mk hp_; clear HP hp_; have HP := n0_; clear n0_))
  clear kcount fcount
  have HBY := Aside0.mk (Cu.bytes_bytesV (QS.St.good HP.out) c1.byteV)
  have HLL := Aside0.mk (show (c3.bytesV c1.byteV).length ≤ 1000000 from by have := (QS.St.good HP.out).2.1; unfold Cu.bytesV; split; (rw [List.length_take]; omega); simp)
  have n0_ := Aside0.mk (QS.St.below HP.out (below_drew (Below.refl _ _)))
  clear HP
  have HP := n0_
  clear n0_
  refine start_ (n := 12) (S := fun w' => w'.cell? ⟨gm, 3, none⟩ = some (.int .u16 m1.count)) (ds := []) (bm 12 0) (by as_aux_lemma => kernel_rfl) rfl (by as_aux_lemma => kernel_rfl) ((QS.St.at_count HP.out).1) (fun hHeld => ?_)
  refine with_tabW rparse8.tab23 rparse8.bits23 (fun HT_ HW_ => ?_)
  refine pu_ 0 (some 86) (bm 12 1) HT_ (by as_aux_lemma => kernel_rfl) rfl rfl (fun _ _ _ h => h) (by rfl) (by intro w'; go_simp; with_reducible rfl) (by go_simp; rfl) ?_
  refine pu_ 1 (some 87) (bm 12 3) HT_ (by as_aux_lemma => kernel_rfl) rfl rfl (fun _ _ _ h => h) (by rfl) (by intro w'; go_simp; with_reducible rfl) (by go_simp; rfl) ?_
  refine pu_ 3 (some 89) (bm 12 11) HT_ (by as_aux_lemma => kernel_rfl) rfl rfl (fun _ _ _ h => h) (by rfl) (by intro w'; go_simp; with_reducible rfl) (by go_simp; rfl) ?_
  refine take_ (i := 4) (N := some 90) (v := ?_) (a' := ?_) (bm 12 27) rfl rfl (take_ofW HT_.out HW_.out (by as_aux_lemma => kernel_rfl)) (fun _ _ _ h => h) (Or.inl ⟨by rfl, ?_⟩) hHeld ?_ ?_
  rotate_left
  · intro w' s0
    go_simp
    with_reducible rfl
  rotate_left
  · simp only [Act.put, List.setIfInBounds_toArray, List.set_cons_zero, List.set_cons_succ, i64_w, i32_w]
    rfl
  refine pu_ 5 (some 91) (bm 12 59) HT_ (by as_aux_lemma => kernel_rfl) rfl rfl (fun _ _ _ h => h) (by rfl) (by intro w'; go_simp; with_reducible rfl) (by go_simp; rfl) ?_
  refine one_ (i := 2) (N := some 88) (bm 12 63) rfl rfl (one_of HT_.out (by as_aux_lemma => kernel_rfl)) (by as_aux_lemma => decide) (fun K hK => ?_)
  refine goes_ Try.func31 (by as_aux_lemma => kernel_rfl) rfl #[.pointer (some ⟨g, 0, none⟩), .int .i64 c1.byteV] (by rfl) rfl rfl (by simp only [List.map_toArray, List.map_cons, List.map_nil]; rfl) ?_
  with_reducible refine (QS.St.bytes HP.out (c1.byteV)).mono ?_
  rintro en x3 ⟨A5, n5, rfl, hz_, hr_, hp_⟩
  obtain ⟨c4, ec_⟩ : ∃ z, z = c3.bytesS (c1.byteV) := ⟨_, rfl⟩
  rw [← ec_] at hp_
  have Ec4 := Aside0.mk ec_
  clear ec_
  have R5 := Aside0.mk hr_
  have R5z := Aside0.mk hz_
  clear hr_ hz_
  have n0_ := Aside0.mk hp_
  clear HP hp_
  have HP := n0_
  clear n0_
  refine ⟨_, rfl, ?_⟩
  refine hK.out _ _ ((QS.St.at_count HP.out).1) (fun hHeld => ?_)
  clear hK K
  refine norm_ (a' := ?_) ?_ ?_
  rotate_left
  · show Act.put _ (some 88) _ = _
    simp only [Act.put, List.setIfInBounds_toArray, List.set_cons_zero, List.set_cons_succ, i64_w, i32_w]
    rfl
  refine one_ (i := 6) (N := some 92) (bm 12 127) rfl rfl (one_of HT_.out (by as_aux_lemma => kernel_rfl)) (by as_aux_lemma => decide) (fun K hK => ?_)
  refine goes_ Try.func34 (by as_aux_lemma => kernel_rfl) rfl #[.slice A5 (c3.bytesV c1.byteV).length n5, .int .i64 m1.count] (by rfl) rfl rfl (by simp only [List.map_toArray, List.map_cons, List.map_nil]; rfl) ?_
  with_reducible refine (runpack_c (R5.out _ (Kept.refl _ _)) R5z.out HBY.out HLL.out ⟨bc0, bc1⟩).mono ?_
  rintro en x82 ⟨A6, n6, rfl, hz_, hr_, hb_⟩
  have R6z := Aside0.mk hz_
  have HLT := Aside0.mk (QS.lt3 HP.out)
  have n0_ := Aside0.mk (QS.St.below HP.out hb_)
  clear HP
  have HP := n0_
  clear n0_
  have R6 := Aside0.mk (show ∀ W', Kept x82 W' (fun k => k = g ∨ k = gm ∨ k = gr) → Kd.C Kd.bool W' A6 (unpackR (c3.bytesV c1.byteV) m1.count).1.length (unpackR (c3.bytesV c1.byteV) m1.count).1 from fun W' hk => hr_ W' (hk.mono fun k hk => by have := HLT.out; rcases hk with rfl | rfl | rfl <;> omega))
  clear hb_ hz_ hr_ HLT
  refine ⟨_, rfl, ?_⟩
  refine hK.out _ _ ((QS.St.at_count HP.out).1) (fun hHeld => ?_)
  clear hK K
  refine norm_ (a' := ?_) ?_ ?_
  rotate_left
  · show Act.put _ (some 92) _ = _
    simp only [Act.put, List.setIfInBounds_toArray, List.set_cons_zero, List.set_cons_succ, i64_w, i32_w]
    rfl
  refine pu_ 7 (some 85) (bm 12 255) HT_ (by as_aux_lemma => kernel_rfl) rfl rfl (fun _ _ _ h => h) (by rfl) (by intro w'; go_simp; with_reducible rfl) (by go_simp; rfl) ?_
  refine pu_ 8 (some 93) (bm 12 511) HT_ (by as_aux_lemma => kernel_rfl) rfl rfl (fun _ _ _ h => h) (by rfl) (by intro w'; go_simp; with_reducible rfl) (by go_simp; rfl) ?_
  refine pu_ 9 (some 94) (bm 12 1023) HT_ (by as_aux_lemma => kernel_rfl) rfl rfl (fun _ _ _ h => h) (by rfl) (by intro w'; go_simp; with_reducible rfl) (by go_simp; rfl) ?_
  refine pu_ 10 (some 12) (bm 12 2047) HT_ (by as_aux_lemma => kernel_rfl) rfl rfl (fun _ _ _ h => h) (by rfl) (by intro w'; go_simp; with_reducible rfl) (by go_simp; rfl) ?_
  refine pu_ 11 (some 13) (bm 12 4095) HT_ (by as_aux_lemma => kernel_rfl) rfl rfl (fun _ _ _ h => h) (by rfl) (by intro w'; go_simp; with_reducible rfl) (by go_simp; rfl) ?_
  refine done_ (done_of HT_.out (by as_aux_lemma => kernel_rfl)) ?_
  clear R5 R5z HBY HLL
  go_upto_region 26 with (first | (go_at_call 30; (with_reducible refine (QS.need_k HP.out ((unpackR (c3.bytesV c1.byteV) m1.count).2) 6).mono ?_); rintro en x83 ⟨rfl, hp_, hk_⟩; obtain ⟨c5, ec_⟩ : ∃ z, z = c4.need ((unpackR (c3.bytesV c1.byteV) m1.count).2) 6 := ⟨_, rfl⟩; rw [← ec_] at hp_; have Ec5 := Aside0.mk ec_; clear ec_; have HK := Aside0.mk hk_; clear hk_; obtain ⟨Ad, nd, kd, fd⟩ := QS.St.at_bits hp_; have n0_ := Aside0.mk hp_; clear HP hp_; have HP := n0_; clear n0_))
  have hp_ := HP.out.put_bits R6z.out (fun W' hk => R6.out W' ((HK.out.mono (fun k hk => .inl hk)).then_ hk (fun k hk => .inl hk)))
  have n0_ := Aside0.mk hp_
  clear HP hp_
  have HP := n0_
  clear n0_
  have eq_ : bodyR 0 15 m0 c0 = (c5, { m1 with bits := (unpackR (c3.bytesV c1.byteV) m1.count).1 }) := by
    have e1 : manyR m0 c0 = manyK m1 c1 := by
      show manyK (spanR 1968 m0 c0).2 (spanR 1968 m0 c0).1 = _
      rw [← EZ.out]
    show manyR m0 c0 = _
    rw [e1, Ec5.out, Ec4.out, Ec3.out, Ec2.out]
    rfl
  obtain ⟨cb, e_⟩ : ∃ z, z = bodyR 0 15 m0 c0 := ⟨_, rfl⟩
  have EBD := Aside0.mk e_
  rw [eq_] at e_
  obtain ⟨c9, m9⟩ := cb
  obtain ⟨e1_, e2_⟩ := Prod.mk.inj e_
  rw [← e1_, ← e2_] at HP
  clear e_ e1_ e2_ eq_
  go_upto_region 27 with (first | (go_at_call 35; (with_reducible refine (QS.St.fin HP.out).mono ?_); rintro en x61 ⟨rfl, hp_⟩; obtain ⟨c10, ec_⟩ : ∃ z, z = c9.fin := ⟨_, rfl⟩; rw [← ec_] at hp_; have Ec10 := Aside0.mk ec_; clear ec_; have n0_ := Aside0.mk hp_; clear HP hp_; have HP := n0_; clear n0_))
  have he1 : parse 0 15 l = if c10.e ≠ 0 then (zeroM, c10.e) else (m9, 0) := by
    have e2 : bodyR 0 15 { zeroM with code := 15 } (cu l) = (c9, m9) := by rw [EBD.out, HM0.out, Ec0.out]; rfl
    unfold parse
    rw [if_neg (by decide), if_neg (by decide), e2, Ec10.out]
  obtain ⟨v0, v1, v2, hbk⟩ := QS.St.blk HP.out
  have ke := (RCur.cells4 hbk).1.2.2.2
  have HBK := Aside0.mk hbk
  have HNE := Aside0.mk HP.out.h2.2.1
  clear hbk
  by_cases h9 : c10.e = 0
  · have ex_ : parse 0 15 l = (m9, 0) := by rw [he1, if_neg (fun h => h h9)]
    have EX := Aside0.mk ex_
    have g1 : (c10.e != 0) = false := by rw [h9]; rfl
    have g2 : (c10.e == 0) = true := by rw [h9]; rfl
    clear h9 ex_ he1
    obtain ⟨cx, h_, hz_, hm_⟩ := QS.St.held2 HP.out
    have H := Aside0.mk h_
    have HZ := Aside0.mk hz_
    have HM := Aside0.mk hm_
    have HB := Aside0.mk HP.out.b
    clear h_ hz_ hm_ HP
    go_wp2_with (first | ((with_reducible refine gate_dst (N := 112) rfl ?_); refine ev_load (x := .tmp 9) rfl rfl rfl H.out (i := 1) rfl (HZ.out) ?_) | ((with_reducible refine gate_op (u := .store 30 (.tmp 6) (.tmp 112)) rfl ?_); refine ev_store rfl rfl rfl rfl H.out (i := 0) rfl rfl (HM.out _ ⟨rfl, rfl, rfl, Kept.refl _ _⟩) ?_; intro x91 h3_ h4_; have HE := Aside0.mk (HM.out _ h4_); clear h4_; have n0_ := Aside0.mk (h3_); clear H; have H := n0_; clear n0_; clear h3_))
    refine bodyPost_ret (results_ct rfl _ _ gr 30 _ (0, 0) _ rfl (H.out.at 0 rfl) Try.underlying30 rfl (msg_info (HZ.out))) rfl (by rw [EX.out]; exact ⟨_, rfl, HE.out, H.out.b⟩)
  · have ex_ : parse 0 15 l = (zeroM, c10.e) := by rw [he1, if_pos h9]
    have EX := Aside0.mk ex_
    have g1 : (c10.e != 0) = true := by simpa using h9
    have g2 : (c10.e == 0) = false := by simpa using h9
    clear h9 ex_ he1
    have H := Aside0.mk (QS.St.held HP.out)
    clear HP
    go_upto_region 28 with (fail)
    clear ke
    refine start_ (n := 7) (S := fun w' => w'.cell? ⟨g, 3, none⟩ = some (.int .i64 c10.e) ∧ Aside0 (Held w0 [(gr, zeroC)] w')) (ds := []) (bm 7 0) (by as_aux_lemma => kernel_rfl) rfl (by as_aux_lemma => kernel_rfl) ⟨((RCur.cells4 (blk_drew HBK.out)).1.2.2.2), (Aside0.mk H.out.drew)⟩ (fun hHeld => ?_)
    refine with_tabW rparse8.tab28 rparse8.bits28 (fun HT_ HW_ => ?_)
    refine pu_ 0 (some 107) (bm 7 1) HT_ (by as_aux_lemma => kernel_rfl) rfl rfl (fun _ _ _ h => h) (by rfl) (by intro w'; go_simp; with_reducible rfl) (by go_simp; rfl) ?_
    refine pu_ 1 (some 108) (bm 7 3) HT_ (by as_aux_lemma => kernel_rfl) rfl rfl (fun _ _ _ h => h) (by rfl) (by intro w'; go_simp; with_reducible rfl) (by go_simp; rfl) ?_
    refine pu_ 2 (some 109) (bm 7 7) HT_ (by as_aux_lemma => kernel_rfl) rfl rfl (fun _ _ _ h => h) (by rfl) (by intro w'; go_simp; with_reducible rfl) (by go_simp; rfl) ?_
    refine pu_ 3 (some 110) (bm 7 15) HT_ (by as_aux_lemma => kernel_rfl) rfl rfl (fun _ _ _ h => h) (by rfl) (by intro w'; go_simp; with_reducible rfl) (by go_simp; rfl) ?_
    refine tk_ 4 (some 111) (bm 7 31) HT_ HW_ hHeld (by as_aux_lemma => kernel_rfl) rfl rfl (fun _ _ _ h => h) (by rfl) (by rintro w' ⟨s0, s1⟩; go_simp; with_reducible rfl) (by go_simp; rfl) ?_
    refine one_ (i := 5) (N := none) (bm 7 63) rfl rfl (one_of HT_.out (by as_aux_lemma => kernel_rfl)) (by as_aux_lemma => decide) (fun K hK => ?_)
    have Hd_ := Aside0.mk H.out.drew
    clear H
    have H := Hd_
    clear Hd_
    refine store_ (x := .tmp 6) (y := .tmp 107) (by rfl) rfl rfl rfl rfl H.out (i := 0) rfl (rfl) (zero_is w0) ?_
    intro x97 h3_ h4_
    have ke3 := (RCur.cells4 (blk_kept (blk_drew HBK.out) h4_.kept (fun e => HNE.out e.symm))).1.2.2.2
    have n0_ := Aside0.mk (h3_); clear H; have H := n0_; clear n0_; clear h3_ h4_
    refine hK.out _ _ ⟨ke3, H⟩ (fun hHeld => ?_)
    clear hK K
    refine pu_ 6 (some 7) (bm 7 127) HT_ (by as_aux_lemma => kernel_rfl) rfl rfl (fun _ _ _ h => h) (by rfl) (by intro w'; go_simp; with_reducible rfl) (by go_simp; rfl) ?_
    refine done_ (done_of HT_.out (by as_aux_lemma => kernel_rfl)) ?_
    go_wp2
    refine bodyPost_ret (results_ct rfl _ _ gr 30 _ (0, 0) _ rfl (H.out.at 0 rfl) Try.underlying30 rfl (msg_info (rfl))) rfl (by rw [EX.out]; exact ⟨_, rfl, zero_is _, H.out.b⟩)
theorem parse_no1 {A : Option Addr} {c : Nat} {l : List Int} {w0 : World} (hr : Kd.C (Kd.int .u8) w0 A l.length l) (hc : l.length ≤ c) (hs : l.length ≤ 1000000) (hb : isBytes l) {code : Int} (hcd : 0 ≤ code ∧ code < 256) (hk : ¬ (code = 1 ∨ code = 2 ∨ code = 5 ∨ code = 15)) :
    Calls Try.prog 14 #[.int .i64 1, .int .u8 code, .slice A l.length c] w0 fun en w' => ∃ cx, en = .returned (.tuple #[.agg cx, .int .i64 4]) ∧ IsMsg w' cx zeroM ∧ Below w0.heap.size w0 w' := by
  have HR := Aside0.mk hr
  have HC := Aside0.mk hc
  have HS := Aside0.mk hs
  have HBB := Aside0.mk hb
  clear hr hc hs hb
  have HKB := Aside0.mk hcd
  clear hcd
  have hk1 : (code == 1) = false := beq_eq_false_iff_ne.2 (by omega)
  have hk2 : (code == 2) = false := beq_eq_false_iff_ne.2 (by omega)
  have hk5 : (code == 5) = false := beq_eq_false_iff_ne.2 (by omega)
  have hk15 : (code == 15) = false := beq_eq_false_iff_ne.2 (by omega)
  clear hk
  go_enter Try.func14, Try.ntmps14
  go_upto_region 3 with (first | ((with_reducible refine gate_dst (N := 6) rfl ?_); refine ev_alloc rfl rfl ?_; intro gr w1 hg_ h1_ h2_; have HG_ := Aside0.mk hg_; have H1 := Aside0.mk h1_; have H2 := Aside0.mk h2_; clear hg_ h1_ h2_))
  go_upto_region 4 with (first | ((with_reducible refine gate_dst (N := 23) rfl ?_); refine QS.ev_cur rfl rfl rfl ?_; intro g w2 q1_ q2_; have HP := Aside0.mk (QS.Nw.first HR.out HC.out HS.out HBB.out HG_.out H1.out H2.out q1_ q2_); clear q1_ q2_ H1 H2 HG_))
  obtain ⟨c0, e_⟩ : ∃ z, z = (⟨l, false, 0⟩ : Cu) := ⟨_, rfl⟩
  rw [← e_] at HP
  have Ec0 := Aside0.mk e_
  clear e_
  go_upto_region 5 with (first | ((with_reducible refine gate_dst (N := 25) rfl ?_); refine ev_build ((zeroC.setIfInBounds 0 (.int .u8 (code)))) rfl (by go_simp; first | rfl | done) ?_; intro cx hcx_; have M := Aside0.mk (show ∀ W, IsMsg W cx _ from fun W => by rw [hcx_]; exact (fun W => set_code (zero_is W) (v := code) ⟨by have := HKB.out; omega, by have := HKB.out; omega⟩) W); have NL := Aside0.mk (show NilL cx by rw [hcx_]; exact (QS.zero_nil.set (by decide))); clear hcx_) | ((with_reducible refine gate_dst (N := 9) rfl ?_); refine ev_var (y := .tmp 25) rfl rfl rfl rfl rfl (M.out w0) rfl rfl ?_; intro gm w4 hg_ h1_ hb_; have hp_ := QS.Nw.new HP.out hg_ h1_ hb_ M.out NL.out; clear h1_ hb_ hg_; have n0_ := Aside0.mk hp_; clear HP hp_; have HP := n0_; clear n0_))
  clear HR HC HS HBB M NL
  obtain ⟨m0, hm0⟩ : ∃ z, z = ({ zeroM with code := code } : Msg) := ⟨_, rfl⟩
  replace HP : Aside0 (QS.St w0 gr g gm w4 c0 { zeroM with code := code }) := HP
  rw [← hm0] at HP
  have HM0 := Aside0.mk hm0
  clear hm0
  have H := Aside0.mk (QS.St.held HP.out)
  clear HP
  go_wp2_with (first | ((with_reducible refine gate_dst (N := 27) rfl ?_); refine ev_build (zeroC) rfl (by go_simp; first | rfl | done) ?_; intro cx hcx_; have M := Aside0.mk (show ∀ W, IsMsg W cx _ from fun W => by rw [hcx_]; exact zero_is W); clear hcx_) | ((with_reducible refine gate_op (u := .store 30 (.tmp 6) (.tmp 27)) rfl ?_); refine ev_store rfl rfl rfl rfl H.out (i := 0) rfl (rfl) (M.out w0) ?_; intro w99 h3_ h4_; have n0_ := Aside0.mk (h3_); clear H; have H := n0_; clear n0_; clear h3_ h4_))
  refine bodyPost_ret (results_ct rfl _ _ gr 30 _ (0, 0) _ rfl (H.out.at 0 rfl) Try.underlying30 rfl (msg_info ((M.out w0).size))) rfl (⟨_, rfl, M.out _, H.out.b⟩)
theorem parse_1_1_1 {A : Option Addr} {c : Nat} {l : List Int} {w0 : World} (hr : Kd.C (Kd.int .u8) w0 A l.length l) (hc : l.length ≤ c) (hs : l.length ≤ 1000000) (hb : isBytes l) (hg : 1 ≤ (⟨l, false, 0⟩ : Cu).byteV) :
    Calls Try.prog 14 #[.int .i64 1, .int .u8 1, .slice A l.length c] w0 fun en w' => ∃ cx, en = .returned (.tuple #[.agg cx, .int .i64 (parse 1 1 l).2]) ∧ IsMsg w' cx (parse 1 1 l).1 ∧ Below w0.heap.size w0 w' := by
  have HG := Aside0.mk hg
  clear hg
  have HR := Aside0.mk hr
  have HC := Aside0.mk hc
  have HS := Aside0.mk hs
  have HBB := Aside0.mk hb
  clear hr hc hs hb
  go_enter Try.func14, Try.ntmps14
  go_upto_region 3 with (first | ((with_reducible refine gate_dst (N := 6) rfl ?_); refine ev_alloc rfl rfl ?_; intro gr w1 hg_ h1_ h2_; have HG_ := Aside0.mk hg_; have H1 := Aside0.mk h1_; have H2 := Aside0.mk h2_; clear hg_ h1_ h2_))
  go_upto_region 4 with (first | ((with_reducible refine gate_dst (N := 23) rfl ?_); refine QS.ev_cur rfl rfl rfl ?_; intro g w2 q1_ q2_; have HP := Aside0.mk (QS.Nw.first HR.out HC.out HS.out HBB.out HG_.out H1.out H2.out q1_ q2_); clear q1_ q2_ H1 H2 HG_))
  obtain ⟨c0, e_⟩ : ∃ z, z = (⟨l, false, 0⟩ : Cu) := ⟨_, rfl⟩
  rw [← e_] at HP
  have Ec0 := Aside0.mk e_
  clear e_
  go_upto_region 5 with (first | ((with_reducible refine gate_dst (N := 25) rfl ?_); refine ev_build ((zeroC.setIfInBounds 0 (.int .u8 (1)))) rfl (by go_simp; first | rfl | done) ?_; intro cx hcx_; have M := Aside0.mk (show ∀ W, IsMsg W cx _ from fun W => by rw [hcx_]; exact (fun W => set_code (zero_is W) (v := 1) (by decide)) W); have NL := Aside0.mk (show NilL cx by rw [hcx_]; exact (QS.zero_nil.set (by decide))); clear hcx_) | ((with_reducible refine gate_dst (N := 9) rfl ?_); refine ev_var (y := .tmp 25) rfl rfl rfl rfl rfl (M.out w0) rfl rfl ?_; intro gm w4 hg_ h1_ hb_; have hp_ := QS.Nw.new HP.out hg_ h1_ hb_ M.out NL.out; clear h1_ hb_ hg_; have n0_ := Aside0.mk hp_; clear HP hp_; have HP := n0_; clear n0_))
  clear HR HC HS HBB M NL
  obtain ⟨m0, hm0⟩ : ∃ z, z = ({ zeroM with code := 1 } : Msg) := ⟨_, rfl⟩
  replace HP : Aside0 (QS.St w0 gr g gm w4 c0 { zeroM with code := 1 }) := HP
  rw [← hm0] at HP
  have HM0 := Aside0.mk hm0
  clear hm0
  go_upto_region 12 with (first | (go_at_call 29; obtain ⟨l0, h0⟩ := Cu.byteV_bd (QS.St.good HP.out); (with_reducible refine (QS.St.byte HP.out).mono ?_); rintro en x1 ⟨rfl, hp_⟩; obtain ⟨c1, ec_⟩ : ∃ z, z = c0.byteS := ⟨_, rfl⟩; rw [← ec_] at hp_; have Ec1 := Aside0.mk ec_; clear ec_; have n0_ := Aside0.mk hp_; clear HP hp_; have HP := n0_; clear n0_))
  have wk := wrap64_id (x := c0.byteV) (by omega) (by omega)
  have wkb : IntKind.i64.wrap c0.byteV = c0.byteV := by rw [i64_w]; exact wk
  have hge : decide (1 ≤ c0.byteV) = true := decide_eq_true (by have := HG.out; rw [← Ec0.out] at this; omega)
  have hge2 : decide (c0.byteV > 0) = true := by rw [← hge]; exact decide_eq_decide.2 ⟨fun h => by omega, fun h => by omega⟩
  have hge3 : decide (0 < c0.byteV) = true := hge2
  have EB := Aside0.mk (show (decide (1 ≤ c0.byteV) && decide (c0.byteV ≤ 250)) = (decide (c0.byteV ≤ 250)) from by rw [hge]; rfl)
  go_upto_region 13 with (first | (go_at_call 30; (with_reducible refine (QS.St.need HP.out (decide (c0.byteV ≤ 250)) 5).mono ?_); rintro en x2 ⟨rfl, hp_⟩; rw [← EB.out] at hp_; obtain ⟨c2, ec_⟩ : ∃ z, z = c1.need (decide (1 ≤ c0.byteV) && decide (c0.byteV ≤ 250)) 5 := ⟨_, rfl⟩; rw [← ec_] at hp_; have Ec2 := Aside0.mk ec_; clear ec_; have n0_ := Aside0.mk hp_; clear HP hp_; have HP := n0_; clear n0_))
  clear hge hge2 hge3
  have HBY := Aside0.mk (Cu.bytes_bytesV (QS.St.good HP.out) c0.byteV)
  go_upto_region 26 with (first | (go_at_call 31; (with_reducible refine (QS.St.bytes HP.out (c0.byteV)).mono ?_); rintro en x3 ⟨A5, n5, rfl, hz_, hr_, hp_⟩; obtain ⟨c3, ec_⟩ : ∃ z, z = c2.bytesS (c0.byteV) := ⟨_, rfl⟩; rw [← ec_] at hp_; have Ec3 := Aside0.mk ec_; clear ec_; have R5 := Aside0.mk hr_; have R5z := Aside0.mk hz_; clear hr_ hz_; have n0_ := Aside0.mk hp_; clear HP hp_; have HP := n0_; clear n0_; obtain ⟨Ad, nd, kd, fd⟩ := QS.St.at_data HP.out))
  have hp_ := HP.out.put_data R5z.out HBY.out R5.out
  have n0_ := Aside0.mk hp_
  clear HP hp_
  have HP := n0_
  clear n0_
  have eq_ : bodyR 1 1 m0 c0 = (c3, { m0 with data := c2.bytesV c0.byteV }) := by
    rw [Ec3.out, Ec2.out, Ec1.out]
    rfl
  obtain ⟨cb, e_⟩ : ∃ z, z = bodyR 1 1 m0 c0 := ⟨_, rfl⟩
  have EBD := Aside0.mk e_
  rw [eq_] at e_
  obtain ⟨c9, m9⟩ := cb
  obtain ⟨e1_, e2_⟩ := Prod.mk.inj e_
  rw [← e1_, ← e2_] at HP
  clear e_ e1_ e2_ eq_
  go_upto_region 27 with (first | (go_at_call 35; (with_reducible refine (QS.St.fin HP.out).mono ?_); rintro en x61 ⟨rfl, hp_⟩; obtain ⟨c10, ec_⟩ : ∃ z, z = c9.fin := ⟨_, rfl⟩; rw [← ec_] at hp_; have Ec10 := Aside0.mk ec_; clear ec_; have n0_ := Aside0.mk hp_; clear HP hp_; have HP := n0_; clear n0_))
  have he1 : parse 1 1 l = if c10.e ≠ 0 then (zeroM, c10.e) else (m9, 0) := by
    have e2 : bodyR 1 1 { zeroM with code := 1 } (cu l) = (c9, m9) := by rw [EBD.out, HM0.out, Ec0.out]; rfl
    unfold parse
    rw [if_neg (by decide), if_neg (by decide), e2, Ec10.out]
  obtain ⟨v0, v1, v2, hbk⟩ := QS.St.blk HP.out
  have ke := (RCur.cells4 hbk).1.2.2.2
  have HBK := Aside0.mk hbk
  have HNE := Aside0.mk HP.out.h2.2.1
  clear hbk
  by_cases h9 : c10.e = 0
  · have ex_ : parse 1 1 l = (m9, 0) := by rw [he1, if_neg (fun h => h h9)]
    have EX := Aside0.mk ex_
    have g1 : (c10.e != 0) = false := by rw [h9]; rfl
    have g2 : (c10.e == 0) = true := by rw [h9]; rfl
    clear h9 ex_ he1
    obtain ⟨cx, h_, hz_, hm_⟩ := QS.St.held2 HP.out
    have H := Aside0.mk h_
    have HZ := Aside0.mk hz_
    have HM := Aside0.mk hm_
    have HB := Aside0.mk HP.out.b
    clear h_ hz_ hm_ HP
    go_wp2_with (first | ((with_reducible refine gate_dst (N := 112) rfl ?_); refine ev_load (x := .tmp 9) rfl rfl rfl H.out (i := 1) rfl (HZ.out) ?_) | ((with_reducible refine gate_op (u := .store 30 (.tmp 6) (.tmp 112)) rfl ?_); refine ev_store rfl rfl rfl rfl H.out (i := 0) rfl rfl (HM.out _ ⟨rfl, rfl, rfl, Kept.refl _ _⟩) ?_; intro x91 h3_ h4_; have HE := Aside0.mk (HM.out _ h4_); clear h4_; have n0_ := Aside0.mk (h3_); clear H; have H := n0_; clear n0_; clear h3_))
    refine bodyPost_ret (results_ct rfl _ _ gr 30 _ (0, 0) _ rfl (H.out.at 0 rfl) Try.underlying30 rfl (msg_info (HZ.out))) rfl (by rw [EX.out]; exact ⟨_, rfl, HE.out, H.out.b⟩)
  · have ex_ : parse 1 1 l = (zeroM, c10.e) := by rw [he1, if_pos h9]
    have EX := Aside0.mk ex_
    have g1 : (c10.e != 0) = true := by simpa using h9
    have g2 : (c10.e == 0) = false := by simpa using h9
    clear h9 ex_ he1
    have H := Aside0.mk (QS.St.held HP.out)
    clear HP
    go_upto_region 28 with (fail)
    clear ke
    refine start_ (n := 7) (S := fun w' => w'.cell? ⟨g, 3, none⟩ = some (.int .i64 c10.e) ∧ Aside0 (Held w0 [(gr, zeroC)] w')) (ds := []) (bm 7 0) (by as_aux_lemma => kernel_rfl) rfl (by as_aux_lemma => kernel_rfl) ⟨((RCur.cells4 (blk_drew HBK.out)).1.2.2.2), (Aside0.mk H.out.drew)⟩ (fun hHeld => ?_)
    refine with_tabW rparse8.tab28 rparse8.bits28 (fun HT_ HW_ => ?_)
    refine pu_ 0 (some 107) (bm 7 1) HT_ (by as_aux_lemma => kernel_rfl) rfl rfl (fun _ _ _ h => h) (by rfl) (by intro w'; go_simp; with_reducible rfl) (by go_simp; rfl) ?_
    refine pu_ 1 (some 108) (bm 7 3) HT_ (by as_aux_lemma => kernel_rfl) rfl rfl (fun _ _ _ h => h) (by rfl) (by intro w'; go_simp; with_reducible rfl) (by go_simp; rfl) ?_
    refine pu_ 2 (some 109) (bm 7 7) HT_ (by as_aux_lemma => kernel_rfl) rfl rfl (fun _ _ _ h => h) (by rfl) (by intro w'; go_simp; with_reducible rfl) (by go_simp; rfl) ?_
    refine pu_ 3 (some 110) (bm 7 15) HT_ (by as_aux_lemma => kernel_rfl) rfl rfl (fun _ _ _ h => h) (by rfl) (by intro w'; go_simp; with_reducible rfl) (by go_simp; rfl) ?_
    refine tk_ 4 (some 111) (bm 7 31) HT_ HW_ hHeld (by as_aux_lemma => kernel_rfl) rfl rfl (fun _ _ _ h => h) (by rfl) (by rintro w' ⟨s0, s1⟩; go_simp; with_reducible rfl) (by go_simp; rfl) ?_
    refine one_ (i := 5) (N := none) (bm 7 63) rfl rfl (one_of HT_.out (by as_aux_lemma => kernel_rfl)) (by as_aux_lemma => decide) (fun K hK => ?_)
    have Hd_ := Aside0.mk H.out.drew
    clear H
    have H := Hd_
    clear Hd_
    refine store_ (x := .tmp 6) (y := .tmp 107) (by rfl) rfl rfl rfl rfl H.out (i := 0) rfl (rfl) (zero_is w0) ?_
    intro x97 h3_ h4_
    have ke3 := (RCur.cells4 (blk_kept (blk_drew HBK.out) h4_.kept (fun e => HNE.out e.symm))).1.2.2.2
    have n0_ := Aside0.mk (h3_); clear H; have H := n0_; clear n0_; clear h3_ h4_
    refine hK.out _ _ ⟨ke3, H⟩ (fun hHeld => ?_)
    clear hK K
    refine pu_ 6 (some 7) (bm 7 127) HT_ (by as_aux_lemma => kernel_rfl) rfl rfl (fun _ _ _ h => h) (by rfl) (by intro w'; go_simp; with_reducible rfl) (by go_simp; rfl) ?_
    refine done_ (done_of HT_.out (by as_aux_lemma => kernel_rfl)) ?_
    go_wp2
    refine bodyPost_ret (results_ct rfl _ _ gr 30 _ (0, 0) _ rfl (H.out.at 0 rfl) Try.underlying30 rfl (msg_info (rfl))) rfl (by rw [EX.out]; exact ⟨_, rfl, zero_is _, H.out.b⟩)
theorem parse_1_1_0 {A : Option Addr} {c : Nat} {l : List Int} {w0 : World} (hr : Kd.C (Kd.int .u8) w0 A l.length l) (hc : l.length ≤ c) (hs : l.length ≤ 1000000) (hb : isBytes l) (hg : ¬ 1 ≤ (⟨l, false, 0⟩ : Cu).byteV) :
    Calls Try.prog 14 #[.int .i64 1, .int .u8 1, .slice A l.length c] w0 fun en w' => ∃ cx, en = .returned (.tuple #[.agg cx, .int .i64 (parse 1 1 l).2]) ∧ IsMsg w' cx (parse 1 1 l).1 ∧ Below w0.heap.size w0 w' := by
  have HG := Aside0.mk hg
  clear hg
  have HR := Aside0.mk hr
  have HC := Aside0.mk hc
  have HS := Aside0.mk hs
  have HBB := Aside0.mk hb
  clear hr hc hs hb
  go_enter Try.func14, Try.ntmps14
  go_upto_region 3 with (first | ((with_reducible refine gate_dst (N := 6) rfl ?_); refine ev_alloc rfl rfl ?_; intro gr w1 hg_ h1_ h2_; have HG_ := Aside0.mk hg_; have H1 := Aside0.mk h1_; have H2 := Aside0.mk h2_; clear hg_ h1_ h2_))
  go_upto_region 4 with (first | ((with_reducible refine gate_dst (N := 23) rfl ?_); refine QS.ev_cur rfl rfl rfl ?_; intro g w2 q1_ q2_; have HP := Aside0.mk (QS.Nw.first HR.out HC.out HS.out HBB.out HG_.out H1.out H2.out q1_ q2_); clear q1_ q2_ H1 H2 HG_))
  obtain ⟨c0, e_⟩ : ∃ z, z = (⟨l, false, 0⟩ : Cu) := ⟨_, rfl⟩
  rw [← e_] at HP
  have Ec0 := Aside0.mk e_
  clear e_
  go_upto_region 5 with (first | ((with_reducible refine gate_dst (N := 25) rfl ?_); refine ev_build ((zeroC.setIfInBounds 0 (.int .u8 (1)))) rfl (by go_simp; first | rfl | done) ?_; intro cx hcx_; have M := Aside0.mk (show ∀ W, IsMsg W cx _ from fun W => by rw [hcx_]; exact (fun W => set_code (zero_is W) (v := 1) (by decide)) W); have NL := Aside0.mk (show NilL cx by rw [hcx_]; exact (QS.zero_nil.set (by decide))); clear hcx_) | ((with_reducible refine gate_dst (N := 9) rfl ?_); refine ev_var (y := .tmp 25) rfl rfl rfl rfl rfl (M.out w0) rfl rfl ?_; intro gm w4 hg_ h1_ hb_; have hp_ := QS.Nw.new HP.out hg_ h1_ hb_ M.out NL.out; clear h1_ hb_ hg_; have n0_ := Aside0.mk hp_; clear HP hp_; have HP := n0_; clear n0_))
  clear HR HC HS HBB M NL
  obtain ⟨m0, hm0⟩ : ∃ z, z = ({ zeroM with code := 1 } : Msg) := ⟨_, rfl⟩
  replace HP : Aside0 (QS.St w0 gr g gm w4 c0 { zeroM with code := 1 }) := HP
  rw [← hm0] at HP
  have HM0 := Aside0.mk hm0
  clear hm0
  go_upto_region 12 with (first | (go_at_call 29; obtain ⟨l0, h0⟩ := Cu.byteV_bd (QS.St.good HP.out); (with_reducible refine (QS.St.byte HP.out).mono ?_); rintro en x1 ⟨rfl, hp_⟩; obtain ⟨c1, ec_⟩ : ∃ z, z = c0.byteS := ⟨_, rfl⟩; rw [← ec_] at hp_; have Ec1 := Aside0.mk ec_; clear ec_; have n0_ := Aside0.mk hp_; clear HP hp_; have HP := n0_; clear n0_))
  have wk := wrap64_id (x := c0.byteV) (by omega) (by omega)
  have wkb : IntKind.i64.wrap c0.byteV = c0.byteV := by rw [i64_w]; exact wk
  have hge : decide (1 ≤ c0.byteV) = false := decide_eq_false (by have := HG.out; rw [← Ec0.out] at this; omega)
  have hge2 : decide (c0.byteV > 0) = false := by rw [← hge]; exact decide_eq_decide.2 ⟨fun h => by omega, fun h => by omega⟩
  have hge3 : decide (0 < c0.byteV) = false := hge2
  have EB := Aside0.mk (show (decide (1 ≤ c0.byteV) && decide (c0.byteV ≤ 250)) = (false) from by rw [hge]; rfl)
  go_upto_region 13 with (first | (go_at_call 30; (with_reducible refine (QS.St.need HP.out (false) 5).mono ?_); rintro en x2 ⟨rfl, hp_⟩; rw [← EB.out] at hp_; obtain ⟨c2, ec_⟩ : ∃ z, z = c1.need (decide (1 ≤ c0.byteV) && decide (c0.byteV ≤ 250)) 5 := ⟨_, rfl⟩; rw [← ec_] at hp_; have Ec2 := Aside0.mk ec_; clear ec_; have n0_ := Aside0.mk hp_; clear HP hp_; have HP := n0_; clear n0_))
  clear hge hge2 hge3
  have HBY := Aside0.mk (Cu.bytes_bytesV (QS.St.good HP.out) c0.byteV)
  go_upto_region 26 with (first | (go_at_call 31; (with_reducible refine (QS.St.bytes HP.out (c0.byteV)).mono ?_); rintro en x3 ⟨A5, n5, rfl, hz_, hr_, hp_⟩; obtain ⟨c3, ec_⟩ : ∃ z, z = c2.bytesS (c0.byteV) := ⟨_, rfl⟩; rw [← ec_] at hp_; have Ec3 := Aside0.mk ec_; clear ec_; have R5 := Aside0.mk hr_; have R5z := Aside0.mk hz_; clear hr_ hz_; have n0_ := Aside0.mk hp_; clear HP hp_; have HP := n0_; clear n0_; obtain ⟨Ad, nd, kd, fd⟩ := QS.St.at_data HP.out))
  have hp_ := HP.out.put_data R5z.out HBY.out R5.out
  have n0_ := Aside0.mk hp_
  clear HP hp_
  have HP := n0_
  clear n0_
  have eq_ : bodyR 1 1 m0 c0 = (c3, { m0 with data := c2.bytesV c0.byteV }) := by
    rw [Ec3.out, Ec2.out, Ec1.out]
    rfl
  obtain ⟨cb, e_⟩ : ∃ z, z = bodyR 1 1 m0 c0 := ⟨_, rfl⟩
  have EBD := Aside0.mk e_
  rw [eq_] at e_
  obtain ⟨c9, m9⟩ := cb
  obtain ⟨e1_, e2_⟩ := Prod.mk.inj e_
  rw [← e1_, ← e2_] at HP
  clear e_ e1_ e2_ eq_
  go_upto_region 27 with (first | (go_at_call 35; (with_reducible refine (QS.St.fin HP.out).mono ?_); rintro en x61 ⟨rfl, hp_⟩; obtain ⟨c10, ec_⟩ : ∃ z, z = c9.fin := ⟨_, rfl⟩; rw [← ec_] at hp_; have Ec10 := Aside0.mk ec_; clear ec_; have n0_ := Aside0.mk hp_; clear HP hp_; have HP := n0_; clear n0_))
  have he1 : parse 1 1 l = if c10.e ≠ 0 then (zeroM, c10.e) else (m9, 0) := by
    have e2 : bodyR 1 1 { zeroM with code := 1 } (cu l) = (c9, m9) := by rw [EBD.out, HM0.out, Ec0.out]; rfl
    unfold parse
    rw [if_neg (by decide), if_neg (by decide), e2, Ec10.out]
  obtain ⟨v0, v1, v2, hbk⟩ := QS.St.blk HP.out
  have ke := (RCur.cells4 hbk).1.2.2.2
  have HBK := Aside0.mk hbk
  have HNE := Aside0.mk HP.out.h2.2.1
  clear hbk
  by_cases h9 : c10.e = 0
  · have ex_ : parse 1 1 l = (m9, 0) := by rw [he1, if_neg (fun h => h h9)]
    have EX := Aside0.mk ex_
    have g1 : (c10.e != 0) = false := by rw [h9]; rfl
    have g2 : (c10.e == 0) = true := by rw [h9]; rfl
    clear h9 ex_ he1
    obtain ⟨cx, h_, hz_, hm_⟩ := QS.St.held2 HP.out
    have H := Aside0.mk h_
    have HZ := Aside0.mk hz_
    have HM := Aside0.mk hm_
    have HB := Aside0.mk HP.out.b
    clear h_ hz_ hm_ HP
    go_wp2_with (first | ((with_reducible refine gate_dst (N := 112) rfl ?_); refine ev_load (x := .tmp 9) rfl rfl rfl H.out (i := 1) rfl (HZ.out) ?_) | ((with_reducible refine gate_op (u := .store 30 (.tmp 6) (.tmp 112)) rfl ?_); refine ev_store rfl rfl rfl rfl H.out (i := 0) rfl rfl (HM.out _ ⟨rfl, rfl, rfl, Kept.refl _ _⟩) ?_; intro x91 h3_ h4_; have HE := Aside0.mk (HM.out _ h4_); clear h4_; have n0_ := Aside0.mk (h3_); clear H; have H := n0_; clear n0_; clear h3_))
    refine bodyPost_ret (results_ct rfl _ _ gr 30 _ (0, 0) _ rfl (H.out.at 0 rfl) Try.underlying30 rfl (msg_info (HZ.out))) rfl (by rw [EX.out]; exact ⟨_, rfl, HE.out, H.out.b⟩)
  · have ex_ : parse 1 1 l = (zeroM, c10.e) := by rw [he1, if_pos h9]
    have EX := Aside0.mk ex_
    have g1 : (c10.e != 0) = true := by simpa using h9
    have g2 : (c10.e == 0) = false := by simpa using h9
    clear h9 ex_ he1
    have H := Aside0.mk (QS.St.held HP.out)
    clear HP
    go_upto_region 28 with (fail)
    clear ke
    refine start_ (n := 7) (S := fun w' => w'.cell? ⟨g, 3, none⟩ = some (.int .i64 c10.e) ∧ Aside0 (Held w0 [(gr, zeroC)] w')) (ds := []) (bm 7 0) (by as_aux_lemma => kernel_rfl) rfl (by as_aux_lemma => kernel_rfl) ⟨((RCur.cells4 (blk_drew HBK.out)).1.2.2.2), (Aside0.mk H.out.drew)⟩ (fun hHeld => ?_)
    refine with_tabW rparse8.tab28 rparse8.bits28 (fun HT_ HW_ => ?_)
    refine pu_ 0 (some 107) (bm 7 1) HT_ (by as_aux_lemma => kernel_rfl) rfl rfl (fun _ _ _ h => h) (by rfl) (by intro w'; go_simp; with_reducible rfl) (by go_simp; rfl) ?_
    refine pu_ 1 (some 108) (bm 7 3) HT_ (by as_aux_lemma => kernel_rfl) rfl rfl (fun _ _ _ h => h) (by rfl) (by intro w'; go_simp; with_reducible rfl) (by go_simp; rfl) ?_
    refine pu_ 2 (some 109) (bm 7 7) HT_ (by as_aux_lemma => kernel_rfl) rfl rfl (fun _ _ _ h => h) (by rfl) (by intro w'; go_simp; with_reducible rfl) (by go_simp; rfl) ?_
    refine pu_ 3 (some 110) (bm 7 15) HT_ (by as_aux_lemma => kernel_rfl) rfl rfl (fun _ _ _ h => h) (by rfl) (by intro w'; go_simp; with_reducible rfl) (by go_simp; rfl) ?_
    refine tk_ 4 (some 111) (bm 7 31) HT_ HW_ hHeld (by as_aux_lemma => kernel_rfl) rfl rfl (fun _ _ _ h => h) (by rfl) (by rintro w' ⟨s0, s1⟩; go_simp; with_reducible rfl) (by go_simp; rfl) ?_
    refine one_ (i := 5) (N := none) (bm 7 63) rfl rfl (one_of HT_.out (by as_aux_lemma => kernel_rfl)) (by as_aux_lemma => decide) (fun K hK => ?_)
    have Hd_ := Aside0.mk H.out.drew
    clear H
    have H := Hd_
    clear Hd_
    refine store_ (x := .tmp 6) (y := .tmp 107) (by rfl) rfl rfl rfl rfl H.out (i := 0) rfl (rfl) (zero_is w0) ?_
    intro x97 h3_ h4_
    have ke3 := (RCur.cells4 (blk_kept (blk_drew HBK.out) h4_.kept (fun e => HNE.out e.symm))).1.2.2.2
    have n0_ := Aside0.mk (h3_); clear H; have H := n0_; clear n0_; clear h3_ h4_
    refine hK.out _ _ ⟨ke3, H⟩ (fun hHeld => ?_)
    clear hK K
    refine pu_ 6 (some 7) (bm 7 127) HT_ (by as_aux_lemma => kernel_rfl) rfl rfl (fun _ _ _ h => h) (by rfl) (by intro w'; go_simp; with_reducible rfl) (by go_simp; rfl) ?_
    refine done_ (done_of HT_.out (by as_aux_lemma => kernel_rfl)) ?_
    go_wp2
    refine bodyPost_ret (results_ct rfl _ _ gr 30 _ (0, 0) _ rfl (H.out.at 0 rfl) Try.underlying30 rfl (msg_info (rfl))) rfl (by rw [EX.out]; exact ⟨_, rfl, zero_is _, H.out.b⟩)
theorem parse_1_2_1 {A : Option Addr} {c : Nat} {l : List Int} {w0 : World} (hr : Kd.C (Kd.int .u8) w0 A l.length l) (hc : l.length ≤ c) (hs : l.length ≤ 1000000) (hb : isBytes l) (hg : 1 ≤ (⟨l, false, 0⟩ : Cu).byteV) :
    Calls Try.prog 14 #[.int .i64 1, .int .u8 2, .slice A l.length c] w0 fun en w' => ∃ cx, en = .returned (.tuple #[.agg cx, .int .i64 (parse 1 2 l).2]) ∧ IsMsg w' cx (parse 1 2 l).1 ∧ Below w0.heap.size w0 w' := by
  have HG := Aside0.mk hg
  clear hg
  have HR := Aside0.mk hr
  have HC := Aside0.mk hc
  have HS := Aside0.mk hs
  have HBB := Aside0.mk hb
  clear hr hc hs hb
  go_enter Try.func14, Try.ntmps14
  go_upto_region 3 with (first | ((with_reducible refine gate_dst (N := 6) rfl ?_); refine ev_alloc rfl rfl ?_; intro gr w1 hg_ h1_ h2_; have HG_ := Aside0.mk hg_; have H1 := Aside0.mk h1_; have H2 := Aside0.mk h2_; clear hg_ h1_ h2_))
  go_upto_region 4 with (first | ((with_reducible refine gate_dst (N := 23) rfl ?_); refine QS.ev_cur rfl rfl rfl ?_; intro g w2 q1_ q2_; have HP := Aside0.mk (QS.Nw.first HR.out HC.out HS.out HBB.out HG_.out H1.out H2.out q1_ q2_); clear q1_ q2_ H1 H2 HG_))
  obtain ⟨c0, e_⟩ : ∃ z, z = (⟨l, false, 0⟩ : Cu) := ⟨_, rfl⟩
  rw [← e_] at HP
  have Ec0 := Aside0.mk e_
  clear e_
  go_upto_region 5 with (first | ((with_reducible refine gate_dst (N := 25) rfl ?_); refine ev_build ((zeroC.setIfInBounds 0 (.int .u8 (2)))) rfl (by go_simp; first | rfl | done) ?_; intro cx hcx_; have M := Aside0.mk (show ∀ W, IsMsg W cx _ from fun W => by rw [hcx_]; exact (fun W => set_code (zero_is W) (v := 2) (by decide)) W); have NL := Aside0.mk (show NilL cx by rw [hcx_]; exact (QS.zero_nil.set (by decide))); clear hcx_) | ((with_reducible refine gate_dst (N := 9) rfl ?_); refine ev_var (y := .tmp 25) rfl rfl rfl rfl rfl (M.out w0) rfl rfl ?_; intro gm w4 hg_ h1_ hb_; have hp_ := QS.Nw.new HP.out hg_ h1_ hb_ M.out NL.out; clear h1_ hb_ hg_; have n0_ := Aside0.mk hp_; clear HP hp_; have HP := n0_; clear n0_))
  clear HR HC HS HBB M NL
  obtain ⟨m0, hm0⟩ : ∃ z, z = ({ zeroM with code := 2 } : Msg) := ⟨_, rfl⟩
  replace HP : Aside0 (QS.St w0 gr g gm w4 c0 { zeroM with code := 2 }) := HP
  rw [← hm0] at HP
  have HM0 := Aside0.mk hm0
  clear hm0
  go_upto_region 12 with (first | (go_at_call 29; obtain ⟨l0, h0⟩ := Cu.byteV_bd (QS.St.good HP.out); (with_reducible refine (QS.St.byte HP.out).mono ?_); rintro en x1 ⟨rfl, hp_⟩; obtain ⟨c1, ec_⟩ : ∃ z, z = c0.byteS := ⟨_, rfl⟩; rw [← ec_] at hp_; have Ec1 := Aside0.mk ec_; clear ec_; have n0_ := Aside0.mk hp_; clear HP hp_; have HP := n0_; clear n0_))
  have wk := wrap64_id (x := c0.byteV) (by omega) (by omega)
  have wkb : IntKind.i64.wrap c0.byteV = c0.byteV := by rw [i64_w]; exact wk
  have hge : decide (1 ≤ c0.byteV) = true := decide_eq_true (by have := HG.out; rw [← Ec0.out] at this; omega)
  have hge2 : decide (c0.byteV > 0) = true := by rw [← hge]; exact decide_eq_decide.2 ⟨fun h => by omega, fun h => by omega⟩
  have hge3 : decide (0 < c0.byteV) = true := hge2
  have EB := Aside0.mk (show (decide (1 ≤ c0.byteV) && decide (c0.byteV ≤ 250)) = (decide (c0.byteV ≤ 250)) from by rw [hge]; rfl)
  go_upto_region 13 with (first | (go_at_call 30; (with_reducible refine (QS.St.need HP.out (decide (c0.byteV ≤ 250)) 5).mono ?_); rintro en x2 ⟨rfl, hp_⟩; rw [← EB.out] at hp_; obtain ⟨c2, ec_⟩ : ∃ z, z = c1.need (decide (1 ≤ c0.byteV) && decide (c0.byteV ≤ 250)) 5 := ⟨_, rfl⟩; rw [← ec_] at hp_; have Ec2 := Aside0.mk ec_; clear ec_; have n0_ := Aside0.mk hp_; clear HP hp_; have HP := n0_; clear n0_))
  clear hge hge2 hge3
  have HBY := Aside0.mk (Cu.bytes_bytesV (QS.St.good HP.out) c0.byteV)
  go_upto_region 26 with (first | (go_at_call 31; (with_reducible refine (QS.St.bytes HP.out (c0.byteV)).mono ?_); rintro en x3 ⟨A5, n5, rfl, hz_, hr_, hp_⟩; obtain ⟨c3, ec_⟩ : ∃ z, z = c2.bytesS (c0.byteV) := ⟨_, rfl⟩; rw [← ec_] at hp_; have Ec3 := Aside0.mk ec_; clear ec_; have R5 := Aside0.mk hr_; have R5z := Aside0.mk hz_; clear hr_ hz_; have n0_ := Aside0.mk hp_; clear HP hp_; have HP := n0_; clear n0_; obtain ⟨Ad, nd, kd, fd⟩ := QS.St.at_data HP.out))
  have hp_ := HP.out.put_data R5z.out HBY.out R5.out
  have n0_ := Aside0.mk hp_
  clear HP hp_
  have HP := n0_
  clear n0_
  have eq_ : bodyR 1 2 m0 c0 = (c3, { m0 with data := c2.bytesV c0.byteV }) := by
    rw [Ec3.out, Ec2.out, Ec1.out]
    rfl
  obtain ⟨cb, e_⟩ : ∃ z, z = bodyR 1 2 m0 c0 := ⟨_, rfl⟩
  have EBD := Aside0.mk e_
  rw [eq_] at e_
  obtain ⟨c9, m9⟩ := cb
  obtain ⟨e1_, e2_⟩ := Prod.mk.inj e_
  rw [← e1_, ← e2_] at HP
  clear e_ e1_ e2_ eq_
  go_upto_region 27 with (first | (go_at_call 35; (with_reducible refine (QS.St.fin HP.out).mono ?_); rintro en x61 ⟨rfl, hp_⟩; obtain ⟨c10, ec_⟩ : ∃ z, z = c9.fin := ⟨_, rfl⟩; rw [← ec_] at hp_; have Ec10 := Aside0.mk ec_; clear ec_; have n0_ := Aside0.mk hp_; clear HP hp_; have HP := n0_; clear n0_))
  have he1 : parse 1 2 l = if c10.e ≠ 0 then (zeroM, c10.e) else (m9, 0) := by
    have e2 : bodyR 1 2 { zeroM with code := 2 } (cu l) = (c9, m9) := by rw [EBD.out, HM0.out, Ec0.out]; rfl
    unfold parse
    rw [if_neg (by decide), if_neg (by decide), e2, Ec10.out]
  obtain ⟨v0, v1, v2, hbk⟩ := QS.St.blk HP.out
  have ke := (RCur.cells4 hbk).1.2.2.2
  have HBK := Aside0.mk hbk
  have HNE := Aside0.mk HP.out.h2.2.1
  clear hbk
  by_cases h9 : c10.e = 0
  · have ex_ : parse 1 2 l = (m9, 0) := by rw [he1, if_neg (fun h => h h9)]
    have EX := Aside0.mk ex_
    have g1 : (c10.e != 0) = false := by rw [h9]; rfl
    have g2 : (c10.e == 0) = true := by rw [h9]; rfl
    clear h9 ex_ he1
    obtain ⟨cx, h_, hz_, hm_⟩ := QS.St.held2 HP.out
    have H := Aside0.mk h_
    have HZ := Aside0.mk hz_
    have HM := Aside0.mk hm_
    have HB := Aside0.mk HP.out.b
    clear h_ hz_ hm_ HP
    go_wp2_with (first | ((with_reducible refine gate_dst (N := 112) rfl ?_); refine ev_load (x := .tmp 9) rfl rfl rfl H.out (i := 1) rfl (HZ.out) ?_) | ((with_reducible refine gate_op (u := .store 30 (.tmp 6) (.tmp 112)) rfl ?_); refine ev_store rfl rfl rfl rfl H.out (i := 0) rfl rfl (HM.out _ ⟨rfl, rfl, rfl, Kept.refl _ _⟩) ?_; intro x91 h3_ h4_; have HE := Aside0.mk (HM.out _ h4_); clear h4_; have n0_ := Aside0.mk (h3_); clear H; have H := n0_; clear n0_; clear h3_))
    refine bodyPost_ret (results_ct rfl _ _ gr 30 _ (0, 0) _ rfl (H.out.at 0 rfl) Try.underlying30 rfl (msg_info (HZ.out))) rfl (by rw [EX.out]; exact ⟨_, rfl, HE.out, H.out.b⟩)
  · have ex_ : parse 1 2 l = (zeroM, c10.e) := by rw [he1, if_pos h9]
    have EX := Aside0.mk ex_
    have g1 : (c10.e != 0) = true := by simpa using h9
    have g2 : (c10.e == 0) = false := by simpa using h9
    clear h9 ex_ he1
    have H := Aside0.mk (QS.St.held HP.out)
    clear HP
    go_upto_region 28 with (fail)
    clear ke
    refine start_ (n := 7) (S := fun w' => w'.cell? ⟨g, 3, none⟩ = some (.int .i64 c10.e) ∧ Aside0 (Held w0 [(gr, zeroC)] w')) (ds := []) (bm 7 0) (by as_aux_lemma => kernel_rfl) rfl (by as_aux_lemma => kernel_rfl) ⟨((RCur.cells4 (blk_drew HBK.out)).1.2.2.2), (Aside0.mk H.out.drew)⟩ (fun hHeld => ?_)
    refine with_tabW rparse8.tab28 rparse8.bits28 (fun HT_ HW_ => ?_)
    refine pu_ 0 (some 107) (bm 7 1) HT_ (by as_aux_lemma => kernel_rfl) rfl rfl (fun _ _ _ h => h) (by rfl) (by intro w'; go_simp; with_reducible rfl) (by go_simp; rfl) ?_
    refine pu_ 1 (some 108) (bm 7 3) HT_ (by as_aux_lemma => kernel_rfl) rfl rfl (fun _ _ _ h => h) (by rfl) (by intro w'; go_simp; with_reducible rfl) (by go_simp; rfl) ?_
    refine pu_ 2 (some 109) (bm 7 7) HT_ (by as_aux_lemma => kernel_rfl) rfl rfl (fun _ _ _ h => h) (by rfl) (by intro w'; go_simp; with_reducible rfl) (by go_simp; rfl) ?_
    refine pu_ 3 (some 110) (bm 7 15) HT_ (by as_aux_lemma => kernel_rfl) rfl rfl (fun _ _ _ h => h) (by rfl) (by intro w'; go_simp; with_reducible rfl) (by go_simp; rfl) ?_
    refine tk_ 4 (some 111) (bm 7 31) HT_ HW_ hHeld (by as_aux_lemma => kernel_rfl) rfl rfl (fun _ _ _ h => h) (by rfl) (by rintro w' ⟨s0, s1⟩; go_simp; with_reducible rfl) (by go_simp; rfl) ?_
    refine one_ (i := 5) (N := none) (bm 7 63) rfl rfl (one_of HT_.out (by as_aux_lemma => kernel_rfl)) (by as_aux_lemma => decide) (fun K hK => ?_)
    have Hd_ := Aside0.mk H.out.drew
    clear H
    have H := Hd_
    clear Hd_
    refine store_ (x := .tmp 6) (y := .tmp 107) (by rfl) rfl rfl rfl rfl H.out (i := 0) rfl (rfl) (zero_is w0) ?_
    intro x97 h3_ h4_
    have ke3 := (RCur.cells4 (blk_kept (blk_drew HBK.out) h4_.kept (fun e => HNE.out e.symm))).1.2.2.2
    have n0_ := Aside0.mk (h3_); clear H; have H := n0_; clear n0_; clear h3_ h4_
    refine hK.out _ _ ⟨ke3, H⟩ (fun hHeld => ?_)
    clear hK K
    refine pu_ 6 (some 7) (bm 7 127) HT_ (by as_aux_lemma => kernel_rfl) rfl rfl (fun _ _ _ h => h) (by rfl) (by intro w'; go_simp; with_reducible rfl) (by go_simp; rfl) ?_
    refine done_ (done_of HT_.out (by as_aux_lemma => kernel_rfl)) ?_
    go_wp2
    refine bodyPost_ret (results_ct rfl _ _ gr 30 _ (0, 0) _ rfl (H.out.at 0 rfl) Try.underlying30 rfl (msg_info (rfl))) rfl (by rw [EX.out]; exact ⟨_, rfl, zero_is _, H.out.b⟩)
theorem parse_1_2_0 {A : Option Addr} {c : Nat} {l : List Int} {w0 : World} (hr : Kd.C (Kd.int .u8) w0 A l.length l) (hc : l.length ≤ c) (hs : l.length ≤ 1000000) (hb : isBytes l) (hg : ¬ 1 ≤ (⟨l, false, 0⟩ : Cu).byteV) :
    Calls Try.prog 14 #[.int .i64 1, .int .u8 2, .slice A l.length c] w0 fun en w' => ∃ cx, en = .returned (.tuple #[.agg cx, .int .i64 (parse 1 2 l).2]) ∧ IsMsg w' cx (parse 1 2 l).1 ∧ Below w0.heap.size w0 w' := by
  have HG := Aside0.mk hg
  clear hg
  have HR := Aside0.mk hr
  have HC := Aside0.mk hc
  have HS := Aside0.mk hs
  have HBB := Aside0.mk hb
  clear hr hc hs hb
  go_enter Try.func14, Try.ntmps14
  go_upto_region 3 with (first | ((with_reducible refine gate_dst (N := 6) rfl ?_); refine ev_alloc rfl rfl ?_; intro gr w1 hg_ h1_ h2_; have HG_ := Aside0.mk hg_; have H1 := Aside0.mk h1_; have H2 := Aside0.mk h2_; clear hg_ h1_ h2_))
  go_upto_region 4 with (first | ((with_reducible refine gate_dst (N := 23) rfl ?_); refine QS.ev_cur rfl rfl rfl ?_; intro g w2 q1_ q2_; have HP := Aside0.mk (QS.Nw.first HR.out HC.out HS.out HBB.out HG_.out H1.out H2.out q1_ q2_); clear q1_ q2_ H1 H2 HG_))
  obtain ⟨c0, e_⟩ : ∃ z, z = (⟨l, false, 0⟩ : Cu) := ⟨_, rfl⟩
  rw [← e_] at HP
  have Ec0 := Aside0.mk e_
  clear e_
  go_upto_region 5 with (first | ((with_reducible refine gate_dst (N := 25) rfl ?_); refine ev_build ((zeroC.setIfInBounds 0 (.int .u8 (2)))) rfl (by go_simp; first | rfl | done) ?_; intro cx hcx_; have M := Aside0.mk (show ∀ W, IsMsg W cx _ from fun W => by rw [hcx_]; exact (fun W => set_code (zero_is W) (v := 2) (by decide)) W); have NL := Aside0.mk (show NilL cx by rw [hcx_]; exact (QS.zero_nil.set (by decide))); clear hcx_) | ((with_reducible refine gate_dst (N := 9) rfl ?_); refine ev_var (y := .tmp 25) rfl rfl rfl rfl rfl (M.out w0) rfl rfl ?_; intro gm w4 hg_ h1_ hb_; have hp_ := QS.Nw.new HP.out hg_ h1_ hb_ M.out NL.out; clear h1_ hb_ hg_; have n0_ := Aside0.mk hp_; clear HP hp_; have HP := n0_; clear n0_))
  clear HR HC HS HBB M NL
  obtain ⟨m0, hm0⟩ : ∃ z, z = ({ zeroM with code := 2 } : Msg) := ⟨_, rfl⟩
  replace HP : Aside0 (QS.St w0 gr g gm w4 c0 { zeroM with code := 2 }) := HP
  rw [← hm0] at HP
  have HM0 := Aside0.mk hm0
  clear hm0
  go_upto_region 12 with (first | (go_at_call 29; obtain ⟨l0, h0⟩ := Cu.byteV_bd (QS.St.good HP.out); (with_reducible refine (QS.St.byte HP.out).mono ?_); rintro en x1 ⟨rfl, hp_⟩; obtain ⟨c1, ec_⟩ : ∃ z, z = c0.byteS := ⟨_, rfl⟩; rw [← ec_] at hp_; have Ec1 := Aside0.mk ec_; clear ec_; have n0_ := Aside0.mk hp_; clear HP hp_; have HP := n0_; clear n0_))
  have wk := wrap64_id (x := c0.byteV) (by omega) (by omega)
  have wkb : IntKind.i64.wrap c0.byteV = c0.byteV := by rw [i64_w]; exact wk
  have hge : decide (1 ≤ c0.byteV) = false := decide_eq_false (by have := HG.out; rw [← Ec0.out] at this; omega)
  have hge2 : decide (c0.byteV > 0) = false := by rw [← hge]; exact decide_eq_decide.2 ⟨fun h => by omega, fun h => by omega⟩
  have hge3 : decide (0 < c0.byteV) = false := hge2
  have EB := Aside0.mk (show (decide (1 ≤ c0.byteV) && decide (c0.byteV ≤ 250)) = (false) from by rw [hge]; rfl)
  go_upto_region 13 with (first | (go_at_call 30; (with_reducible refine (QS.St.need HP.out (false) 5).mono ?_); rintro en x2 ⟨rfl, hp_⟩; rw [← EB.out] at hp_; obtain ⟨c2, ec_⟩ : ∃ z, z = c1.need (decide (1 ≤ c0.byteV) && decide (c0.byteV ≤ 250)) 5 := ⟨_, rfl⟩; rw [← ec_] at hp_; have Ec2 := Aside0.mk ec_; clear ec_; have n0_ := Aside0.mk hp_; clear HP hp_; have HP := n0_; clear n0_))
  clear hge hge2 hge3
  have HBY := Aside0.mk (Cu.bytes_bytesV (QS.St.good HP.out) c0.byteV)
  go_upto_region 26 with (first | (go_at_call 31; (with_reducible refine (QS.St.bytes HP.out (c0.byteV)).mono ?_); rintro en x3 ⟨A5, n5, rfl, hz_, hr_, hp_⟩; obtain ⟨c3, ec_⟩ : ∃ z, z = c2.bytesS (c0.byteV) := ⟨_, rfl⟩; rw [← ec_] at hp_; have Ec3 := Aside0.mk ec_; clear ec_; have R5 := Aside0.mk hr_; have R5z := Aside0.mk hz_; clear hr_ hz_; have n0_ := Aside0.mk hp_; clear HP hp_; have HP := n0_; clear n0_; obtain ⟨Ad, nd, kd, fd⟩ := QS.St.at_data HP.out))
  have hp_ := HP.out.put_data R5z.out HBY.out R5.out
  have n0_ := Aside0.mk hp_
  clear HP hp_
  have HP := n0_
  clear n0_
  have eq_ : bodyR 1 2 m0 c0 = (c3, { m0 with data := c2.bytesV c0.byteV }) := by
    rw [Ec3.out, Ec2.out, Ec1.out]
    rfl
  obtain ⟨cb, e_⟩ : ∃ z, z = bodyR 1 2 m0 c0 := ⟨_, rfl⟩
  have EBD := Aside0.mk e_
  rw [eq_] at e_
  obtain ⟨c9, m9⟩ := cb
  obtain ⟨e1_, e2_⟩ := Prod.mk.inj e_
  rw [← e1_, ← e2_] at HP
  clear e_ e1_ e2_ eq_
  go_upto_region 27 with (first | (go_at_call 35; (with_reducible refine (QS.St.fin HP.out).mono ?_); rintro en x61 ⟨rfl, hp_⟩; obtain ⟨c10, ec_⟩ : ∃ z, z = c9.fin := ⟨_, rfl⟩; rw [← ec_] at hp_; have Ec10 := Aside0.mk ec_; clear ec_; have n0_ := Aside0.mk hp_; clear HP hp_; have HP := n0_; clear n0_))
  have he1 : parse 1 2 l = if c10.e ≠ 0 then (zeroM, c10.e) else (m9, 0) := by
    have e2 : bodyR 1 2 { zeroM with code := 2 } (cu l) = (c9, m9) := by rw [EBD.out, HM0.out, Ec0.out]; rfl
    unfold parse
    rw [if_neg (by decide), if_neg (by decide), e2, Ec10.out]
  obtain ⟨v0, v1, v2, hbk⟩ := QS.St.blk HP.out
  have ke := (RCur.cells4 hbk).1.2.2.2
  have HBK := Aside0.mk hbk
  have HNE := Aside0.mk HP.out.h2.2.1
  clear hbk
  by_cases h9 : c10.e = 0
  · have ex_ : parse 1 2 l = (m9, 0) := by rw [he1, if_neg (fun h => h h9)]
    have EX := Aside0.mk ex_
    have g1 : (c10.e != 0) = false := by rw [h9]; rfl
    have g2 : (c10.e == 0) = true := by rw [h9]; rfl
    clear h9 ex_ he1
    obtain ⟨cx, h_, hz_, hm_⟩ := QS.St.held2 HP.out
    have H := Aside0.mk h_
    have HZ := Aside0.mk hz_
    have HM := Aside0.mk hm_
    have HB := Aside0.mk HP.out.b
    clear h_ hz_ hm_ HP
    go_wp2_with (first | ((with_reducible refine gate_dst (N := 112) rfl ?_); refine ev_load (x := .tmp 9) rfl rfl rfl H.out (i := 1) rfl (HZ.out) ?_) | ((with_reducible refine gate_op (u := .store 30 (.tmp 6) (.tmp 112)) rfl ?_); refine ev_store rfl rfl rfl rfl H.out (i := 0) rfl rfl (HM.out _ ⟨rfl, rfl, rfl, Kept.refl _ _⟩) ?_; intro x91 h3_ h4_; have HE := Aside0.mk (HM.out _ h4_); clear h4_; have n0_ := Aside0.mk (h3_); clear H; have H := n0_; clear n0_; clear h3_))
    refine bodyPost_ret (results_ct rfl _ _ gr 30 _ (0, 0) _ rfl (H.out.at 0 rfl) Try.underlying30 rfl (msg_info (HZ.out))) rfl (by rw [EX.out]; exact ⟨_, rfl, HE.out, H.out.b⟩)
  · have ex_ : parse 1 2 l = (zeroM, c10.e) := by rw [he1, if_pos h9]
    have EX := Aside0.mk ex_
    have g1 : (c10.e != 0) = true := by simpa using h9
    have g2 : (c10.e == 0) = false := by simpa using h9
    clear h9 ex_ he1
    have H := Aside0.mk (QS.St.held HP.out)
    clear HP
    go_upto_region 28 with (fail)
    clear ke
    refine start_ (n := 7) (S := fun w' => w'.cell? ⟨g, 3, none⟩ = some (.int .i64 c10.e) ∧ Aside0 (Held w0 [(gr, zeroC)] w')) (ds := []) (bm 7 0) (by as_aux_lemma => kernel_rfl) rfl (by as_aux_lemma => kernel_rfl) ⟨((RCur.cells4 (blk_drew HBK.out)).1.2.2.2), (Aside0.mk H.out.drew)⟩ (fun hHeld => ?_)
    refine with_tabW rparse8.tab28 rparse8.bits28 (fun HT_ HW_ => ?_)
    refine pu_ 0 (some 107) (bm 7 1) HT_ (by as_aux_lemma => kernel_rfl) rfl rfl (fun _ _ _ h => h) (by rfl) (by intro w'; go_simp; with_reducible rfl) (by go_simp; rfl) ?_
    refine pu_ 1 (some 108) (bm 7 3) HT_ (by as_aux_lemma => kernel_rfl) rfl rfl (fun _ _ _ h => h) (by rfl) (by intro w'; go_simp; with_reducible rfl) (by go_simp; rfl) ?_
    refine pu_ 2 (some 109) (bm 7 7) HT_ (by as_aux_lemma => kernel_rfl) rfl rfl (fun _ _ _ h => h) (by rfl) (by intro w'; go_simp; with_reducible rfl) (by go_simp; rfl) ?_
    refine pu_ 3 (some 110) (bm 7 15) HT_ (by as_aux_lemma => kernel_rfl) rfl rfl (fun _ _ _ h => h) (by rfl) (by intro w'; go_simp; with_reducible rfl) (by go_simp; rfl) ?_
    refine tk_ 4 (some 111) (bm 7 31) HT_ HW_ hHeld (by as_aux_lemma => kernel_rfl) rfl rfl (fun _ _ _ h => h) (by rfl) (by rintro w' ⟨s0, s1⟩; go_simp; with_reducible rfl) (by go_simp; rfl) ?_
    refine one_ (i := 5) (N := none) (bm 7 63) rfl rfl (one_of HT_.out (by as_aux_lemma => kernel_rfl)) (by as_aux_lemma => decide) (fun K hK => ?_)
    have Hd_ := Aside0.mk H.out.drew
    clear H
    have H := Hd_
    clear Hd_
    refine store_ (x := .tmp 6) (y := .tmp 107) (by rfl) rfl rfl rfl rfl H.out (i := 0) rfl (rfl) (zero_is w0) ?_
    intro x97 h3_ h4_
    have ke3 := (RCur.cells4 (blk_kept (blk_drew HBK.out) h4_.kept (fun e => HNE.out e.symm))).1.2.2.2
    have n0_ := Aside0.mk (h3_); clear H; have H := n0_; clear n0_; clear h3_ h4_
    refine hK.out _ _ ⟨ke3, H⟩ (fun hHeld => ?_)
    clear hK K
    refine pu_ 6 (some 7) (bm 7 127) HT_ (by as_aux_lemma => kernel_rfl) rfl rfl (fun _ _ _ h => h) (by rfl) (by intro w'; go_simp; with_reducible rfl) (by go_simp; rfl) ?_
    refine done_ (done_of HT_.out (by as_aux_lemma => kernel_rfl)) ?_
    go_wp2
    refine bodyPost_ret (results_ct rfl _ _ gr 30 _ (0, 0) _ rfl (H.out.at 0 rfl) Try.underlying30 rfl (msg_info (rfl))) rfl (by rw [EX.out]; exact ⟨_, rfl, zero_is _, H.out.b⟩)
theorem parse_1_5_1 {A : Option Addr} {c : Nat} {l : List Int} {w0 : World} (hr : Kd.C (Kd.int .u8) w0 A l.length l) (hc : l.length ≤ c) (hs : l.length ≤ 1000000) (hb : isBytes l) (hg : (⟨l, false, 0⟩ : Cu).wordS.wordV = 0) :
    Calls Try.prog 14 #[.int .i64 1, .int .u8 5, .slice A l.length c] w0 fun en w' => ∃ cx, en = .returned (.tuple #[.agg cx, .int .i64 (parse 1 5 l).2]) ∧ IsMsg w' cx (parse 1 5 l).1 ∧ Below w0.heap.size w0 w' := by
  have HG := Aside0.mk hg
  clear hg
  have HR := Aside0.mk hr
  have HC := Aside0.mk hc
  have HS := Aside0.mk hs
  have HBB := Aside0.mk hb
  clear hr hc hs hb
  go_enter Try.func14, Try.ntmps14
  go_upto_region 3 with (first | ((with_reducible refine gate_dst (N := 6) rfl ?_); refine ev_alloc rfl rfl ?_; intro gr w1 hg_ h1_ h2_; have HG_ := Aside0.mk hg_; have H1 := Aside0.mk h1_; have H2 := Aside0.mk h2_; clear hg_ h1_ h2_))
  go_upto_region 4 with (first | ((with_reducible refine gate_dst (N := 23) rfl ?_); refine QS.ev_cur rfl rfl rfl ?_; intro g w2 q1_ q2_; have HP := Aside0.mk (QS.Nw.first HR.out HC.out HS.out HBB.out HG_.out H1.out H2.out q1_ q2_); clear q1_ q2_ H1 H2 HG_))
  obtain ⟨c0, e_⟩ : ∃ z, z = (⟨l, false, 0⟩ : Cu) := ⟨_, rfl⟩
  rw [← e_] at HP
  have Ec0 := Aside0.mk e_
  clear e_
  go_upto_region 5 with (first | ((with_reducible refine gate_dst (N := 25) rfl ?_); refine ev_build ((zeroC.setIfInBounds 0 (.int .u8 (5)))) rfl (by go_simp; first | rfl | done) ?_; intro cx hcx_; have M := Aside0.mk (show ∀ W, IsMsg W cx _ from fun W => by rw [hcx_]; exact (fun W => set_code (zero_is W) (v := 5) (by decide)) W); have NL := Aside0.mk (show NilL cx by rw [hcx_]; exact (QS.zero_nil.set (by decide))); clear hcx_) | ((with_reducible refine gate_dst (N := 9) rfl ?_); refine ev_var (y := .tmp 25) rfl rfl rfl rfl rfl (M.out w0) rfl rfl ?_; intro gm w4 hg_ h1_ hb_; have hp_ := QS.Nw.new HP.out hg_ h1_ hb_ M.out NL.out; clear h1_ hb_ hg_; have n0_ := Aside0.mk hp_; clear HP hp_; have HP := n0_; clear n0_))
  clear HR HC HS HBB M NL
  obtain ⟨m0, hm0⟩ : ∃ z, z = ({ zeroM with code := 5 } : Msg) := ⟨_, rfl⟩
  replace HP : Aside0 (QS.St w0 gr g gm w4 c0 { zeroM with code := 5 }) := HP
  rw [← hm0] at HP
  have HM0 := Aside0.mk hm0
  clear hm0
  go_upto_region 16 with (first | (go_at_call 32; obtain ⟨l0, h0⟩ := Cu.wordV_bd (QS.St.good HP.out); (with_reducible refine (QS.St.word HP.out).mono ?_); rintro en x1 ⟨rfl, hp_⟩; obtain ⟨c1, ec_⟩ : ∃ z, z = c0.wordS := ⟨_, rfl⟩; rw [← ec_] at hp_; have Ec1 := Aside0.mk ec_; clear ec_; obtain ⟨kaddr, faddr⟩ := QS.St.at_addr hp_; have n0_ := Aside0.mk hp_; clear HP hp_; have HP := n0_; clear n0_))
  have hp_ := HP.out.put_addr ⟨l0, h0⟩
  have n0_ := Aside0.mk hp_
  clear HP hp_
  have HP := n0_
  clear n0_
  go_upto_region 17 with (first | (go_at_call 32; obtain ⟨l1, h1⟩ := Cu.wordV_bd (QS.St.good HP.out); (with_reducible refine (QS.St.word HP.out).mono ?_); rintro en x2 ⟨rfl, hp_⟩; obtain ⟨c2, ec_⟩ : ∃ z, z = c1.wordS := ⟨_, rfl⟩; rw [← ec_] at hp_; have Ec2 := Aside0.mk ec_; clear ec_; obtain ⟨kvalue, fvalue⟩ := QS.St.at_value hp_; have n0_ := Aside0.mk hp_; clear HP hp_; have HP := n0_; clear n0_))
  have hp_ := HP.out.put_value ⟨l1, h1⟩
  obtain ⟨kvalue, fvalue⟩ := QS.St.at_value hp_
  have n0_ := Aside0.mk hp_
  clear HP hp_
  have HP := n0_
  clear n0_
  have hz : (c1.wordV == 0) = true := beq_iff_eq.2 (by have := HG.out; rw [← Ec0.out, ← Ec1.out] at this; omega)
  have EB := Aside0.mk (show (c1.wordV == 0 || c1.wordV == 65280) = (true) from by rw [hz]; rfl)
  go_upto_region 26 with (first | (go_at_call 30; (with_reducible refine (QS.St.need HP.out (true) 6).mono ?_); rintro en x3 ⟨rfl, hp_⟩; rw [← EB.out] at hp_; obtain ⟨c3, ec_⟩ : ∃ z, z = c2.need (c1.wordV == 0 || c1.wordV == 65280) 6 := ⟨_, rfl⟩; rw [← ec_] at hp_; have Ec3 := Aside0.mk ec_; clear ec_; have n0_ := Aside0.mk hp_; clear HP hp_; have HP := n0_; clear n0_))
  clear hz
  have eq_ : bodyR 1 5 m0 c0 = (c3, { ({ m0 with addr := c0.wordV } : Msg) with value := c1.wordV }) := by
    rw [Ec3.out, Ec2.out, Ec1.out]
    rfl
  obtain ⟨cb, e_⟩ : ∃ z, z = bodyR 1 5 m0 c0 := ⟨_, rfl⟩
  have EBD := Aside0.mk e_
  rw [eq_] at e_
  obtain ⟨c9, m9⟩ := cb
  obtain ⟨e1_, e2_⟩ := Prod.mk.inj e_
  rw [← e1_, ← e2_] at HP
  clear e_ e1_ e2_ eq_
  go_upto_region 27 with (first | (go_at_call 35; (with_reducible refine (QS.St.fin HP.out).mono ?_); rintro en x61 ⟨rfl, hp_⟩; obtain ⟨c10, ec_⟩ : ∃ z, z = c9.fin := ⟨_, rfl⟩; rw [← ec_] at hp_; have Ec10 := Aside0.mk ec_; clear ec_; have n0_ := Aside0.mk hp_; clear HP hp_; have HP := n0_; clear n0_))
  have he1 : parse 1 5 l = if c10.e ≠ 0 then (zeroM, c10.e) else (m9, 0) := by
    have e2 : bodyR 1 5 { zeroM with code := 5 } (cu l) = (c9, m9) := by rw [EBD.out, HM0.out, Ec0.out]; rfl
    unfold parse
    rw [if_neg (by decide), if_neg (by decide), e2, Ec10.out]
  obtain ⟨v0, v1, v2, hbk⟩ := QS.St.blk HP.out
  have ke := (RCur.cells4 hbk).1.2.2.2
  have HBK := Aside0.mk hbk
  have HNE := Aside0.mk HP.out.h2.2.1
  clear hbk
  by_cases h9 : c10.e = 0
  · have ex_ : parse 1 5 l = (m9, 0) := by rw [he1, if_neg (fun h => h h9)]
    have EX := Aside0.mk ex_
    have g1 : (c10.e != 0) = false := by rw [h9]; rfl
    have g2 : (c10.e == 0) = true := by rw [h9]; rfl
    clear h9 ex_ he1
    obtain ⟨cx, h_, hz_, hm_⟩ := QS.St.held2 HP.out
    have H := Aside0.mk h_
    have HZ := Aside0.mk hz_
    have HM := Aside0.mk hm_
    have HB := Aside0.mk HP.out.b
    clear h_ hz_ hm_ HP
    go_wp2_with (first | ((with_reducible refine gate_dst (N := 112) rfl ?_); refine ev_load (x := .tmp 9) rfl rfl rfl H.out (i := 1) rfl (HZ.out) ?_) | ((with_reducible refine gate_op (u := .store 30 (.tmp 6) (.tmp 112)) rfl ?_); refine ev_store rfl rfl rfl rfl H.out (i := 0) rfl rfl (HM.out _ ⟨rfl, rfl, rfl, Kept.refl _ _⟩) ?_; intro x91 h3_ h4_; have HE := Aside0.mk (HM.out _ h4_); clear h4_; have n0_ := Aside0.mk (h3_); clear H; have H := n0_; clear n0_; clear h3_))
    refine bodyPost_ret (results_ct rfl _ _ gr 30 _ (0, 0) _ rfl (H.out.at 0 rfl) Try.underlying30 rfl (msg_info (HZ.out))) rfl (by rw [EX.out]; exact ⟨_, rfl, HE.out, H.out.b⟩)
  · have ex_ : parse 1 5 l = (zeroM, c10.e) := by rw [he1, if_pos h9]
    have EX := Aside0.mk ex_
    have g1 : (c10.e != 0) = true := by simpa using h9
    have g2 : (c10.e == 0) = false := by simpa using h9
    clear h9 ex_ he1
    have H := Aside0.mk (QS.St.held HP.out)
    clear HP
    go_upto_region 28 with (fail)
    clear ke
    refine start_ (n := 7) (S := fun w' => w'.cell? ⟨g, 3, none⟩ = some (.int .i64 c10.e) ∧ Aside0 (Held w0 [(gr, zeroC)] w')) (ds := []) (bm 7 0) (by as_aux_lemma => kernel_rfl) rfl (by as_aux_lemma => kernel_rfl) ⟨((RCur.cells4 (blk_drew HBK.out)).1.2.2.2), (Aside0.mk H.out.drew)⟩ (fun hHeld => ?_)
    refine with_tabW rparse8.tab28 rparse8.bits28 (fun HT_ HW_ => ?_)
    refine pu_ 0 (some 107) (bm 7 1) HT_ (by as_aux_lemma => kernel_rfl) rfl rfl (fun _ _ _ h => h) (by rfl) (by intro w'; go_simp; with_reducible rfl) (by go_simp; rfl) ?_
    refine pu_ 1 (some 108) (bm 7 3) HT_ (by as_aux_lemma => kernel_rfl) rfl rfl (fun _ _ _ h => h) (by rfl) (by intro w'; go_simp; with_reducible rfl) (by go_simp; rfl) ?_
    refine pu_ 2 (some 109) (bm 7 7) HT_ (by as_aux_lemma => kernel_rfl) rfl rfl (fun _ _ _ h => h) (by rfl) (by intro w'; go_simp; with_reducible rfl) (by go_simp; rfl) ?_
    refine pu_ 3 (some 110) (bm 7 15) HT_ (by as_aux_lemma => kernel_rfl) rfl rfl (fun _ _ _ h => h) (by rfl) (by intro w'; go_simp; with_reducible rfl) (by go_simp; rfl) ?_
    refine tk_ 4 (some 111) (bm 7 31) HT_ HW_ hHeld (by as_aux_lemma => kernel_rfl) rfl rfl (fun _ _ _ h => h) (by rfl) (by rintro w' ⟨s0, s1⟩; go_simp; with_reducible rfl) (by go_simp; rfl) ?_
    refine one_ (i := 5) (N := none) (bm 7 63) rfl rfl (one_of HT_.out (by as_aux_lemma => kernel_rfl)) (by as_aux_lemma => decide) (fun K hK => ?_)
    have Hd_ := Aside0.mk H.out.drew
    clear H
    have H := Hd_
    clear Hd_
    refine store_ (x := .tmp 6) (y := .tmp 107) (by rfl) rfl rfl rfl rfl H.out (i := 0) rfl (rfl) (zero_is w0) ?_
    intro x97 h3_ h4_
    have ke3 := (RCur.cells4 (blk_kept (blk_drew HBK.out) h4_.kept (fun e => HNE.out e.symm))).1.2.2.2
    have n0_ := Aside0.mk (h3_); clear H; have H := n0_; clear n0_; clear h3_ h4_
    refine hK.out _ _ ⟨ke3, H⟩ (fun hHeld => ?_)
    clear hK K
    refine pu_ 6 (some 7) (bm 7 127) HT_ (by as_aux_lemma => kernel_rfl) rfl rfl (fun _ _ _ h => h) (by rfl) (by intro w'; go_simp; with_reducible rfl) (by go_simp; rfl) ?_
    refine done_ (done_of HT_.out (by as_aux_lemma => kernel_rfl)) ?_
    go_wp2
    refine bodyPost_ret (results_ct rfl _ _ gr 30 _ (0, 0) _ rfl (H.out.at 0 rfl) Try.underlying30 rfl (msg_info (rfl))) rfl (by rw [EX.out]; exact ⟨_, rfl, zero_is _, H.out.b⟩)
theorem parse_1_5_0 {A : Option Addr} {c : Nat} {l : List Int} {w0 : World} (hr : Kd.C (Kd.int .u8) w0 A l.length l) (hc : l.length ≤ c) (hs : l.length ≤ 1000000) (hb : isBytes l) (hg : (⟨l, false, 0⟩ : Cu).wordS.wordV ≠ 0) :
    Calls Try.prog 14 #[.int .i64 1, .int .u8 5, .slice A l.length c] w0 fun en w' => ∃ cx, en = .returned (.tuple #[.agg cx, .int .i64 (parse 1 5 l).2]) ∧ IsMsg w' cx (parse 1 5 l).1 ∧ Below w0.heap.size w0 w' := by
  have HG := Aside0.mk hg
  clear hg
  have HR := Aside0.mk hr
  have HC := Aside0.mk hc
  have HS := Aside0.mk hs
  have HBB := Aside0.mk hb
  clear hr hc hs hb
  go_enter Try.func14, Try.ntmps14
  go_upto_region 3 with (first | ((with_reducible refine gate_dst (N := 6) rfl ?_); refine ev_alloc rfl rfl ?_; intro gr w1 hg_ h1_ h2_; have HG_ := Aside0.mk hg_; have H1 := Aside0.mk h1_; have H2 := Aside0.mk h2_; clear hg_ h1_ h2_))
  go_upto_region 4 with (first | ((with_reducible refine gate_dst (N := 23) rfl ?_); refine QS.ev_cur rfl rfl rfl ?_; intro g w2 q1_ q2_; have HP := Aside0.mk (QS.Nw.first HR.out HC.out HS.out HBB.out HG_.out H1.out H2.out q1_ q2_); clear q1_ q2_ H1 H2 HG_))
  obtain ⟨c0, e_⟩ : ∃ z, z = (⟨l, false, 0⟩ : Cu) := ⟨_, rfl⟩
  rw [← e_] at HP
  have Ec0 := Aside0.mk e_
  clear e_
  go_upto_region 5 with (first | ((with_reducible refine gate_dst (N := 25) rfl ?_); refine ev_build ((zeroC.setIfInBounds 0 (.int .u8 (5)))) rfl (by go_simp; first | rfl | done) ?_; intro cx hcx_; have M := Aside0.mk (show ∀ W, IsMsg W cx _ from fun W => by rw [hcx_]; exact (fun W => set_code (zero_is W) (v := 5) (by decide)) W); have NL := Aside0.mk (show NilL cx by rw [hcx_]; exact (QS.zero_nil.set (by decide))); clear hcx_) | ((with_reducible refine gate_dst (N := 9) rfl ?_); refine ev_var (y := .tmp 25) rfl rfl rfl rfl rfl (M.out w0) rfl rfl ?_; intro gm w4 hg_ h1_ hb_; have hp_ := QS.Nw.new HP.out hg_ h1_ hb_ M.out NL.out; clear h1_ hb_ hg_; have n0_ := Aside0.mk hp_; clear HP hp_; have HP := n0_; clear n0_))
  clear HR HC HS HBB M NL
  obtain ⟨m0, hm0⟩ : ∃ z, z = ({ zeroM with code := 5 } : Msg) := ⟨_, rfl⟩
  replace HP : Aside0 (QS.St w0 gr g gm w4 c0 { zeroM with code := 5 }) := HP
  rw [← hm0] at HP
  have HM0 := Aside0.mk hm0
  clear hm0
  go_upto_region 16 with (first | (go_at_call 32; obtain ⟨l0, h0⟩ := Cu.wordV_bd (QS.St.good HP.out); (with_reducible refine (QS.St.word HP.out).mono ?_); rintro en x1 ⟨rfl, hp_⟩; obtain ⟨c1, ec_⟩ : ∃ z, z = c0.wordS := ⟨_, rfl⟩; rw [← ec_] at hp_; have Ec1 := Aside0.mk ec_; clear ec_; obtain ⟨kaddr, faddr⟩ := QS.St.at_addr hp_; have n0_ := Aside0.mk hp_; clear HP hp_; have HP := n0_; clear n0_))
  have hp_ := HP.out.put_addr ⟨l0, h0⟩
  have n0_ := Aside0.mk hp_
  clear HP hp_
  have HP := n0_
  clear n0_
  go_upto_region 17 with (first | (go_at_call 32; obtain ⟨l1, h1⟩ := Cu.wordV_bd (QS.St.good HP.out); (with_reducible refine (QS.St.word HP.out).mono ?_); rintro en x2 ⟨rfl, hp_⟩; obtain ⟨c2, ec_⟩ : ∃ z, z = c1.wordS := ⟨_, rfl⟩; rw [← ec_] at hp_; have Ec2 := Aside0.mk ec_; clear ec_; obtain ⟨kvalue, fvalue⟩ := QS.St.at_value hp_; have n0_ := Aside0.mk hp_; clear HP hp_; have HP := n0_; clear n0_))
  have hp_ := HP.out.put_value ⟨l1, h1⟩
  obtain ⟨kvalue, fvalue⟩ := QS.St.at_value hp_
  have n0_ := Aside0.mk hp_
  clear HP hp_
  have HP := n0_
  clear n0_
  have hz : (c1.wordV == 0) = false := beq_eq_false_iff_ne.2 (by have := HG.out; rw [← Ec0.out, ← Ec1.out] at this; omega)
  have EB := Aside0.mk (show (c1.wordV == 0 || c1.wordV == 65280) = (c1.wordV == 65280) from by rw [hz]; rfl)
  go_upto_region 26 with (first | (go_at_call 30; (with_reducible refine (QS.St.need HP.out (c1.wordV == 65280) 6).mono ?_); rintro en x3 ⟨rfl, hp_⟩; rw [← EB.out] at hp_; obtain ⟨c3, ec_⟩ : ∃ z, z = c2.need (c1.wordV == 0 || c1.wordV == 65280) 6 := ⟨_, rfl⟩; rw [← ec_] at hp_; have Ec3 := Aside0.mk ec_; clear ec_; have n0_ := Aside0.mk hp_; clear HP hp_; have HP := n0_; clear n0_))
  clear hz
  have eq_ : bodyR 1 5 m0 c0 = (c3, { ({ m0 with addr := c0.wordV } : Msg) with value := c1.wordV }) := by
    rw [Ec3.out, Ec2.out, Ec1.out]
    rfl
  obtain ⟨cb, e_⟩ : ∃ z, z = bodyR 1 5 m0 c0 := ⟨_, rfl⟩
  have EBD := Aside0.mk e_
  rw [eq_] at e_
  obtain ⟨c9, m9⟩ := cb
  obtain ⟨e1_, e2_⟩ := Prod.mk.inj e_
  rw [← e1_, ← e2_] at HP
  clear e_ e1_ e2_ eq_
  go_upto_region 27 with (first | (go_at_call 35; (with_reducible refine (QS.St.fin HP.out).mono ?_); rintro en x61 ⟨rfl, hp_⟩; obtain ⟨c10, ec_⟩ : ∃ z, z = c9.fin := ⟨_, rfl⟩; rw [← ec_] at hp_; have Ec10 := Aside0.mk ec_; clear ec_; have n0_ := Aside0.mk hp_; clear HP hp_; have HP := n0_; clear n0_))
  have he1 : parse 1 5 l = if c10.e ≠ 0 then (zeroM, c10.e) else (m9, 0) := by
    have e2 : bodyR 1 5 { zeroM with code := 5 } (cu l) = (c9, m9) := by rw [EBD.out, HM0.out, Ec0.out]; rfl
    unfold parse
    rw [if_neg (by decide), if_neg (by decide), e2, Ec10.out]
  obtain ⟨v0, v1, v2, hbk⟩ := QS.St.blk HP.out
  have ke := (RCur.cells4 hbk).1.2.2.2
  have HBK := Aside0.mk hbk
  have HNE := Aside0.mk HP.out.h2.2.1
  clear hbk
  by_cases h9 : c10.e = 0
  · have ex_ : parse 1 5 l = (m9, 0) := by rw [he1, if_neg (fun h => h h9)]
    have EX := Aside0.mk ex_
    have g1 : (c10.e != 0) = false := by rw [h9]; rfl
    have g2 : (c10.e == 0) = true := by rw [h9]; rfl
    clear h9 ex_ he1
    obtain ⟨cx, h_, hz_, hm_⟩ := QS.St.held2 HP.out
    have H := Aside0.mk h_
    have HZ := Aside0.mk hz_
    have HM := Aside0.mk hm_
    have HB := Aside0.mk HP.out.b
    clear h_ hz_ hm_ HP
    go_wp2_with (first | ((with_reducible refine gate_dst (N := 112) rfl ?_); refine ev_load (x := .tmp 9) rfl rfl rfl H.out (i := 1) rfl (HZ.out) ?_) | ((with_reducible refine gate_op (u := .store 30 (.tmp 6) (.tmp 112)) rfl ?_); refine ev_store rfl rfl rfl rfl H.out (i := 0) rfl rfl (HM.out _ ⟨rfl, rfl, rfl, Kept.refl _ _⟩) ?_; intro x91 h3_ h4_; have HE := Aside0.mk (HM.out _ h4_); clear h4_; have n0_ := Aside0.mk (h3_); clear H; have H := n0_; clear n0_; clear h3_))
    refine bodyPost_ret (results_ct rfl _ _ gr 30 _ (0, 0) _ rfl (H.out.at 0 rfl) Try.underlying30 rfl (msg_info (HZ.out))) rfl (by rw [EX.out]; exact ⟨_, rfl, HE.out, H.out.b⟩)
  · have ex_ : parse 1 5 l = (zeroM, c10.e) := by rw [he1, if_pos h9]
    have EX := Aside0.mk ex_
    have g1 : (c10.e != 0) = true := by simpa using h9
    have g2 : (c10.e == 0) = false := by simpa using h9
    clear h9 ex_ he1
    have H := Aside0.mk (QS.St.held HP.out)
    clear HP
    go_upto_region 28 with (fail)
    clear ke
    refine start_ (n := 7) (S := fun w' => w'.cell? ⟨g, 3, none⟩ = some (.int .i64 c10.e) ∧ Aside0 (Held w0 [(gr, zeroC)] w')) (ds := []) (bm 7 0) (by as_aux_lemma => kernel_rfl) rfl (by as_aux_lemma => kernel_rfl) ⟨((RCur.cells4 (blk_drew HBK.out)).1.2.2.2), (Aside0.mk H.out.drew)⟩ (fun hHeld => ?_)
    refine with_tabW rparse8.tab28 rparse8.bits28 (fun HT_ HW_ => ?_)
    refine pu_ 0 (some 107) (bm 7 1) HT_ (by as_aux_lemma => kernel_rfl) rfl rfl (fun _ _ _ h => h) (by rfl) (by intro w'; go_simp; with_reducible rfl) (by go_simp; rfl) ?_
    refine pu_ 1 (some 108) (bm 7 3) HT_ (by as_aux_lemma => kernel_rfl) rfl rfl (fun _ _ _ h => h) (by rfl) (by intro w'; go_simp; with_reducible rfl) (by go_simp; rfl) ?_
    refine pu_ 2 (some 109) (bm 7 7) HT_ (by as_aux_lemma => kernel_rfl) rfl rfl (fun _ _ _ h => h) (by rfl) (by intro w'; go_simp; with_reducible rfl) (by go_simp; rfl) ?_
    refine pu_ 3 (some 110) (bm 7 15) HT_ (by as_aux_lemma => kernel_rfl) rfl rfl (fun _ _ _ h => h) (by rfl) (by intro w'; go_simp; with_reducible rfl) (by go_simp; rfl) ?_
    refine tk_ 4 (some 111) (bm 7 31) HT_ HW_ hHeld (by as_aux_lemma => kernel_rfl) rfl rfl (fun _ _ _ h => h) (by rfl) (by rintro w' ⟨s0, s1⟩; go_simp; with_reducible rfl) (by go_simp; rfl) ?_
    refine one_ (i := 5) (N := none) (bm 7 63) rfl rfl (one_of HT_.out (by as_aux_lemma => kernel_rfl)) (by as_aux_lemma => decide) (fun K hK => ?_)
    have Hd_ := Aside0.mk H.out.drew
    clear H
    have H := Hd_
    clear Hd_
    refine store_ (x := .tmp 6) (y := .tmp 107) (by rfl) rfl rfl rfl rfl H.out (i := 0) rfl (rfl) (zero_is w0) ?_
    intro x97 h3_ h4_
    have ke3 := (RCur.cells4 (blk_kept (blk_drew HBK.out) h4_.kept (fun e => HNE.out e.symm))).1.2.2.2
    have n0_ := Aside0.mk (h3_); clear H; have H := n0_; clear n0_; clear h3_ h4_
    refine hK.out _ _ ⟨ke3, H⟩ (fun hHeld => ?_)
    clear hK K
    refine pu_ 6 (some 7) (bm 7 127) HT_ (by as_aux_lemma => kernel_rfl) rfl rfl (fun _ _ _ h => h) (by rfl) (by intro w'; go_simp; with_reducible rfl) (by go_simp; rfl) ?_
    refine done_ (done_of HT_.out (by as_aux_lemma => kernel_rfl)) ?_
    go_wp2
    refine bodyPost_ret (results_ct rfl _ _ gr 30 _ (0, 0) _ rfl (H.out.at 0 rfl) Try.underlying30 rfl (msg_info (rfl))) rfl (by rw [EX.out]; exact ⟨_, rfl, zero_is _, H.out.b⟩)
theorem parse_1_15 {A : Option Addr} {c : Nat} {l : List Int} {w0 : World} (hr : Kd.C (Kd.int .u8) w0 A l.length l) (hc : l.length ≤ c) (hs : l.length ≤ 1000000) (hb : isBytes l) :
    Calls Try.prog 14 #[.int .i64 1, .int .u8 15, .slice A l.length c] w0 fun en w' => ∃ cx, en = .returned (.tuple #[.agg cx, .int .i64 (parse 1 15 l).2]) ∧ IsMsg w' cx (parse 1 15 l).1 ∧ Below w0.heap.size w0 w' := by
  have HR := Aside0.mk hr
  have HC := Aside0.mk hc
  have HS := Aside0.mk hs
  have HBB := Aside0.mk hb
  clear hr hc hs hb
  go_enter Try.func14, Try.ntmps14
  go_upto_region 3 with (first | ((with_reducible refine gate_dst (N := 6) rfl ?_); refine ev_alloc rfl rfl ?_; intro gr w1 hg_ h1_ h2_; have HG_ := Aside0.mk hg_; have H1 := Aside0.mk h1_; have H2 := Aside0.mk h2_; clear hg_ h1_ h2_))
  go_upto_region 4 with (first | ((with_reducible refine gate_dst (N := 23) rfl ?_); refine QS.ev_cur rfl rfl rfl ?_; intro g w2 q1_ q2_; have HP := Aside0.mk (QS.Nw.first HR.out HC.out HS.out HBB.out HG_.out H1.out H2.out q1_ q2_); clear q1_ q2_ H1 H2 HG_))
  obtain ⟨c0, e_⟩ : ∃ z, z = (⟨l, false, 0⟩ : Cu) := ⟨_, rfl⟩
  rw [← e_] at HP
  have Ec0 := Aside0.mk e_
  clear e_
  go_upto_region 5 with (first | ((with_reducible refine gate_dst (N := 25) rfl ?_); refine ev_build ((zeroC.setIfInBounds 0 (.int .u8 (15)))) rfl (by go_simp; first | rfl | done) ?_; intro cx hcx_; have M := Aside0.mk (show ∀ W, IsMsg W cx _ from fun W => by rw [hcx_]; exact (fun W => set_code (zero_is W) (v := 15) (by decide)) W); have NL := Aside0.mk (show NilL cx by rw [hcx_]; exact (QS.zero_nil.set (by decide))); clear hcx_) | ((with_reducible refine gate_dst (N := 9) rfl ?_); refine ev_var (y := .tmp 25) rfl rfl rfl rfl rfl (M.out w0) rfl rfl ?_; intro gm w4 hg_ h1_ hb_; have hp_ := QS.Nw.new HP.out hg_ h1_ hb_ M.out NL.out; clear h1_ hb_ hg_; have n0_ := Aside0.mk hp_; clear HP hp_; have HP := n0_; clear n0_))
  clear HR HC HS HBB M NL
  obtain ⟨m0, hm0⟩ : ∃ z, z = ({ zeroM with code := 15 } : Msg) := ⟨_, rfl⟩
  replace HP : Aside0 (QS.St w0 gr g gm w4 c0 { zeroM with code := 15 }) := HP
  rw [← hm0] at HP
  have HM0 := Aside0.mk hm0
  clear hm0
  go_upto_region 26 with (first | (go_at_call 28; (with_reducible refine (span_any HP.out 1968).mono ?_); rintro en x80 ⟨rfl, hp_⟩; obtain ⟨z1, ez_⟩ : ∃ z, z = spanR 1968 m0 c0 := ⟨_, rfl⟩; rw [← ez_] at hp_; obtain ⟨c1, m1⟩ := z1; have EZ := Aside0.mk ez_; clear ez_; have n0_ := Aside0.mk hp_; clear HP hp_; have HP := n0_; clear n0_))
  replace HP : Aside0 (QS.St w0 gr g gm x80 c1 m1) := HP
  have eq_ : bodyR 1 15 m0 c0 = (c1, m1) := by rw [EZ.out]; rfl
  obtain ⟨cb, e_⟩ : ∃ z, z = bodyR 1 15 m0 c0 := ⟨_, rfl⟩
  have EBD := Aside0.mk e_
  rw [eq_] at e_
  obtain ⟨c9, m9⟩ := cb
  obtain ⟨e1_, e2_⟩ := Prod.mk.inj e_
  rw [← e1_, ← e2_] at HP
  clear e_ e1_ e2_ eq_
  go_upto_region 27 with (first | (go_at_call 35; (with_reducible refine (QS.St.fin HP.out).mono ?_); rintro en x61 ⟨rfl, hp_⟩; obtain ⟨c10, ec_⟩ : ∃ z, z = c9.fin := ⟨_, rfl⟩; rw [← ec_] at hp_; have Ec10 := Aside0.mk ec_; clear ec_; have n0_ := Aside0.mk hp_; clear HP hp_; have HP := n0_; clear n0_))
  have he1 : parse 1 15 l = if c10.e ≠ 0 then (zeroM, c10.e) else (m9, 0) := by
    have e2 : bodyR 1 15 { zeroM with code := 15 } (cu l) = (c9, m9) := by rw [EBD.out, HM0.out, Ec0.out]; rfl
    unfold parse
    rw [if_neg (by decide), if_neg (by decide), e2, Ec10.out]
  obtain ⟨v0, v1, v2, hbk⟩ := QS.St.blk HP.out
  have ke := (RCur.cells4 hbk).1.2.2.2
  have HBK := Aside0.mk hbk
  have HNE := Aside0.mk HP.out.h2.2.1
  clear hbk
  by_cases h9 : c10.e = 0
  · have ex_ : parse 1 15 l = (m9, 0) := by rw [he1, if_neg (fun h => h h9)]
    have EX := Aside0.mk ex_
    have g1 : (c10.e != 0) = false := by rw [h9]; rfl
    have g2 : (c10.e == 0) = true := by rw [h9]; rfl
    clear h9 ex_ he1
    obtain ⟨cx, h_, hz_, hm_⟩ := QS.St.held2 HP.out
    have H := Aside0.mk h_
    have HZ := Aside0.mk hz_
    have HM := Aside0.mk hm_
    have HB := Aside0.mk HP.out.b
    clear h_ hz_ hm_ HP
    go_wp2_with (first | ((with_reducible refine gate_dst (N := 112) rfl ?_); refine ev_load (x := .tmp 9) rfl rfl rfl H.out (i := 1) rfl (HZ.out) ?_) | ((with_reducible refine gate_op (u := .store 30 (.tmp 6) (.tmp 112)) rfl ?_); refine ev_store rfl rfl rfl rfl H.out (i := 0) rfl rfl (HM.out _ ⟨rfl, rfl, rfl, Kept.refl _ _⟩) ?_; intro x91 h3_ h4_; have HE := Aside0.mk (HM.out _ h4_); clear h4_; have n0_ := Aside0.mk (h3_); clear H; have H := n0_; clear n0_; clear h3_))
    refine bodyPost_ret (results_ct rfl _ _ gr 30 _ (0, 0) _ rfl (H.out.at 0 rfl) Try.underlying30 rfl (msg_info (HZ.out))) rfl (by rw [EX.out]; exact ⟨_, rfl, HE.out, H.out.b⟩)
  · have ex_ : parse 1 15 l = (zeroM, c10.e) := by rw [he1, if_pos h9]
    have EX := Aside0.mk ex_
    have g1 : (c10.e != 0) = true := by simpa using h9
    have g2 : (c10.e == 0) = false := by simpa using h9
    clear h9 ex_ he1
    have H := Aside0.mk (QS.St.held HP.out)
    clear HP
    go_upto_region 28 with (fail)
    clear ke
    refine start_ (n := 7) (S := fun w' => w'.cell? ⟨g, 3, none⟩ = some (.int .i64 c10.e) ∧ Aside0 (Held w0 [(gr, zeroC)] w')) (ds := []) (bm 7 0) (by as_aux_lemma => kernel_rfl) rfl (by as_aux_lemma => kernel_rfl) ⟨((RCur.cells4 (blk_drew HBK.out)).1.2.2.2), (Aside0.mk H.out.drew)⟩ (fun hHeld => ?_)
    refine with_tabW rparse8.tab28 rparse8.bits28 (fun HT_ HW_ => ?_)
    refine pu_ 0 (some 107) (bm 7 1) HT_ (by as_aux_lemma => kernel_rfl) rfl rfl (fun _ _ _ h => h) (by rfl) (by intro w'; go_simp; with_reducible rfl) (by go_simp; rfl) ?_
    refine pu_ 1 (some 108) (bm 7 3) HT_ (by as_aux_lemma => kernel_rfl) rfl rfl (fun _ _ _ h => h) (by rfl) (by intro w'; go_simp; with_reducible rfl) (by go_simp; rfl) ?_
    refine pu_ 2 (some 109) (bm 7 7) HT_ (by as_aux_lemma => kernel_rfl) rfl rfl (fun _ _ _ h => h) (by rfl) (by intro w'; go_simp; with_reducible rfl) (by go_simp; rfl) ?_
    refine pu_ 3 (some 110) (bm 7 15) HT_ (by as_aux_lemma => kernel_rfl) rfl rfl (fun _ _ _ h => h) (by rfl) (by intro w'; go_simp; with_reducible rfl) (by go_simp; rfl) ?_
    refine tk_ 4 (some 111) (bm 7 31) HT_ HW_ hHeld (by as_aux_lemma => kernel_rfl) rfl rfl (fun _ _ _ h => h) (by rfl) (by rintro w' ⟨s0, s1⟩; go_simp; with_reducible rfl) (by go_simp; rfl) ?_
    refine one_ (i := 5) (N := none) (bm 7 63) rfl rfl (one_of HT_.out (by as_aux_lemma => kernel_rfl)) (by as_aux_lemma => decide) (fun K hK => ?_)
    have Hd_ := Aside0.mk H.out.drew
    clear H
    have H := Hd_
    clear Hd_
    refine store_ (x := .tmp 6) (y := .tmp 107) (by rfl) rfl rfl rfl rfl H.out (i := 0) rfl (rfl) (zero_is w0) ?_
    intro x97 h3_ h4_
    have ke3 := (RCur.cells4 (blk_kept (blk_drew HBK.out) h4_.kept (fun e => HNE.out e.symm))).1.2.2.2
    have n0_ := Aside0.mk (h3_); clear H; have H := n0_; clear n0_; clear h3_ h4_
    refine hK.out _ _ ⟨ke3, H⟩ (fun hHeld => ?_)
    clear hK K
    refine pu_ 6 (some 7) (bm 7 127) HT_ (by as_aux_lemma => kernel_rfl) rfl rfl (fun _ _ _ h => h) (by rfl) (by intro w'; go_simp; with_reducible rfl) (by go_simp; rfl) ?_
    refine done_ (done_of HT_.out (by as_aux_lemma => kernel_rfl)) ?_
    go_wp2
    refine bodyPost_ret (results_ct rfl _ _ gr 30 _ (0, 0) _ rfl (H.out.at 0 rfl) Try.underlying30 rfl (msg_info (rfl))) rfl (by rw [EX.out]; exact ⟨_, rfl, zero_is _, H.out.b⟩)
theorem parse_any {dir code : Int} {A : Option Addr} {c : Nat} {l : List Int} {w0 : World} (hr : Kd.C (Kd.int .u8) w0 A l.length l) (hc : l.length ≤ c) (hs : l.length ≤ 1000000) (hb : isBytes l) (hcd : 0 ≤ code ∧ code < 256) :
    Calls Try.prog 14 #[.int .i64 dir, .int .u8 code, .slice A l.length c] w0 fun en w' => ∃ cx, en = .returned (.tuple #[.agg cx, .int .i64 (parse dir code l).2]) ∧ IsMsg w' cx (parse dir code l).1 ∧ Below w0.heap.size w0 w' := by
  by_cases h0 : dir = 0
  · subst h0
    by_cases k1 : code = 1
    · subst k1; exact parse_0_1 hr hc hs hb
    by_cases k2 : code = 2
    · subst k2; exact parse_0_2 hr hc hs hb
    by_cases k5 : code = 5
    · subst k5
      by_cases hg : (⟨l, false, 0⟩ : Cu).wordS.wordV = 0
      · exact parse_0_5_1 hr hc hs hb hg
      · exact parse_0_5_0 hr hc hs hb hg
    by_cases k15 : code = 15
    · subst k15; exact parse_0_15 hr hc hs hb
    have e : parse 0 code l = (zeroM, 4) := by unfold parse; rw [if_neg (by decide), if_pos (by omega)]
    rw [e]; exact parse_no0 hr hc hs hb hcd (by omega)
  by_cases h1 : dir = 1
  · subst h1
    by_cases k1 : code = 1
    · subst k1
      by_cases hg : 1 ≤ (⟨l, false, 0⟩ : Cu).byteV
      · exact parse_1_1_1 hr hc hs hb hg
      · exact parse_1_1_0 hr hc hs hb hg
    by_cases k2 : code = 2
    · subst k2
      by_cases hg : 1 ≤ (⟨l, false, 0⟩ : Cu).byteV
      · exact parse_1_2_1 hr hc hs hb hg
      · exact parse_1_2_0 hr hc hs hb hg
    by_cases k5 : code = 5
    · subst k5
      by_cases hg : (⟨l, false, 0⟩ : Cu).wordS.wordV = 0
      · exact parse_1_5_1 hr hc hs hb hg
      · exact parse_1_5_0 hr hc hs hb hg
    by_cases k15 : code = 15
    · subst k15; exact parse_1_15 hr hc hs hb
    have e : parse 1 code l = (zeroM, 4) := by unfold parse; rw [if_neg (by decide), if_pos (by omega)]
    rw [e]; exact parse_no1 hr hc hs hb hcd (by omega)
  have e : parse dir code l = (zeroM, 1) := by unfold parse; rw [if_pos ⟨h0, h1⟩]
  rw [e]; exact parse_dir hr hc hs hb h0 h1
end Go.Proofs.Ytggiobdjepgkfaa.CoilR
end
