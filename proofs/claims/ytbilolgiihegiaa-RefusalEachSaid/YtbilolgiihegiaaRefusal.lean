/- Refusals: what the functions of chapter 13 answer, and its reference's. Conditions: what each theorem states. -/
import Derived.Test.YtbilolgiihegiaaBlk
import Derived.Test.YtbilolgiihegiaaCode
import Derived.Test.YtbilolgiihegiaaPx18
import Derived.Test.YtbilolgiihegiaaPx19
import Derived.Test.YtbilolgiihegiaaPx3
import Derived.Test.YtbilolgiihegiaaPx4
import Derived.Test.YtbilolgiihegiaaPx7
set_option linter.unusedVariables false
set_option linter.unusedSimpArgs false
namespace Go.Proofs.Ytbilolgiihegiaa.Refu
open Go.RowKit Go.Proofs.Ytbilolgiihegiaa.P Go.Proofs.Ytbilolgiihegiaa.E Go.Proofs.Ytbilolgiihegiaa.Same Go.Proofs.Ytbilolgiihegiaa.Code Go.Proofs.YtbilolgiihegiaaW.PrintWords Go.Proofs.YtbilolgiihegiaaW.PrintLast Go.Proofs.YtbilolgiihegiaaW.PrintMore
/-- A refusal as a message. -/
def msg2 (c f : Int) : Msg := ⟨c, f, 0, 0, 0, 0, 0, 0, 0, 0, 0, 0, [], [], [], [], 0, 0, 0, 0, 0, []⟩
def msg2C (c f : Int) : Array Value := #[.int .u8 c, .int .u8 f, .int .u16 0, .int .u16 0, .int .u16 0, .int .u16 0, .int .u16 0, .int .u16 0, .int .u16 0, .int .u16 0, .int .u16 0, .int .u16 0, .slice none 0 0, .slice none 0 0, .slice none 0 0, .slice none 0 0, .int .u8 0, .int .u8 0, .int .u8 0, .int .u8 0, .int .u8 0, .slice none 0 0]
theorem msg2_good {c f : Int} (hc : 0 ≤ c ∧ c < 256) (hf : 0 ≤ f ∧ f < 256) : goodM (msg2 c f) := by
  refine ⟨?_, ?_, ?_, ?_⟩
  · simp [okM, msg2, u8B, u16B, hc, hf]
  · intro x h; cases h
  · intro x h; cases h
  · intro x h; cases h
theorem msg2_is {c f : Int} (hc : 0 ≤ c ∧ c < 256) (hf : 0 ≤ f ∧ f < 256) (w : World) : IsMsg w (msg2C c f) (msg2 c f) := by
  refine ⟨none, 0, none, 0, none, 0, none, 0, none, 0, ?_, msg2_good hc hf, ?_⟩
  · rfl
  · exact ⟨nil_row _ w, nil_row _ w, nil_row _ w, nil_row _ w, nil_row _ w⟩
set_option maxHeartbeats 4000000 in
set_option maxRecDepth 100000 in
theorem of_any (c f : Int) (hc : 0 ≤ c ∧ c < 256) (hf : 0 ≤ f ∧ f < 256) (w : World) :
    Calls Try.prog 20 #[.agg #[.int .u8 c, .int .u8 f]] w fun e w' => e = .returned (.agg (msg2C c f)) ∧ Below w.heap.size w w' := by
  have HC := Aside0.mk hc
  have HF := Aside0.mk hf
  clear hc hf
  go_enter Try.func20, Try.ntmps20
  go_upto_region 1 with (((with_reducible refine gate_op (u := .alloc 30) rfl ?_); refine ev_alloc rfl rfl ?_; intro g w1 hg h1 h2; have H1 := Aside0.mk ((Held.start w).on (below_alloc (Below.refl _ _) (Obj.cells #[Value.int IntKind.u8 c, Value.int IntKind.u8 f] 45)) |>.new hg h1 h2); have K0 := Aside0.mk (blk_below (blk_new w (Obj.cells #[Value.int IntKind.u8 c, Value.int IntKind.u8 f] 45)) h2); clear h1 h2 hg))
  have k0 := (blk_cell K0.out 0).trans rfl
  have k1 := (blk_cell K0.out 1).trans rfl
  go_wp2_with (first
    | ((with_reducible refine gate_dst (N := 7) rfl ?_); refine ev_build (msg2C c f) rfl (by go_simp; rfl) ?_; intro cx hcx; have M := Aside0.mk (show ∀ W, IsMsg W cx (msg2 c f) from fun W => by rw [hcx]; exact msg2_is HC.out HF.out W); have HX := Aside0.mk hcx; clear hcx)
    | ((with_reducible refine gate_op (u := .store 30 (.tmp 2) (.tmp 7)) rfl ?_); refine ev_store rfl rfl rfl rfl H1.out (i := 0) rfl rfl (M.out w1) ?_; intro w2 h3 h4; have H2 := Aside0.mk h3; clear h3 h4 H1))
  rw [← HX.out]
  refine bodyPost_ret (results_cell_row rfl _ _ g 30 cx (0, 0) _ rfl (H2.out.at 0 rfl) Try.underlying30 rfl (msg_info (M.out w2).size)) rfl ⟨?_, H2.out.b⟩
  rfl
/-- Which codes, and which reasons, there are. -/
def pubB (c : Int) : Bool := publicL.contains c
def faiB (c : Int) : Bool := failureL.contains c
theorem byte_fin {n : Int} (h : 0 ≤ n ∧ n < 256) : ∃ a : Fin 256, n = (a.val : Int) := ⟨⟨n.toNat, by omega⟩, by simp; omega⟩
theorem pub_fin : ∀ a : Fin 256, code_Public.f (a.val : Int) = some (pubB (a.val : Int)) ∧ busbarref07_Public.f (a.val : Int) = some (pubB (a.val : Int)) ∧ (128 ≤ a.val → pubB (a.val : Int) = false) ∧ (a.val = 0 → pubB (a.val : Int) = false) := by decide +kernel
theorem fai_fin : ∀ a : Fin 256, code_Failure.f (a.val : Int) = some (faiB (a.val : Int)) ∧ busbarref07_Failure.f (a.val : Int) = some (faiB (a.val : Int)) := by decide +kernel
theorem pub_c {c : Int} (h : 0 ≤ c ∧ c < 256) (w : World) : Calls Try.prog 18 #[.int .u8 c] w fun e w' => e = .returned (.bool (pubB c)) ∧ Below w.heap.size w w' := by
  obtain ⟨a, rfl⟩ := byte_fin h
  exact code_Public.calls _ _ w (pub_fin a).1
theorem fai_c {c : Int} (h : 0 ≤ c ∧ c < 256) (w : World) : Calls Try.prog 19 #[.int .u8 c] w fun e w' => e = .returned (.bool (faiB c)) ∧ Below w.heap.size w w' := by
  obtain ⟨a, rfl⟩ := byte_fin h
  exact code_Failure.calls _ _ w (fai_fin a).1
theorem rpub_c {c : Int} (h : 0 ≤ c ∧ c < 256) (w : World) : Calls Try.prog 16 #[.int .u8 c] w fun e w' => e = .returned (.bool (pubB c)) ∧ Below w.heap.size w w' := by
  obtain ⟨a, rfl⟩ := byte_fin h
  refine (busbarref07_Public.calls _ _ w (pub_fin a).2.1).mono ?_
  rintro e w' ⟨rfl, n, rfl⟩
  exact ⟨rfl, pw_below_drewN (Below.refl _ _) _⟩
theorem rfai_c {c : Int} (h : 0 ≤ c ∧ c < 256) (w : World) : Calls Try.prog 17 #[.int .u8 c] w fun e w' => e = .returned (.bool (faiB c)) ∧ Below w.heap.size w w' := by
  obtain ⟨a, rfl⟩ := byte_fin h
  refine (busbarref07_Failure.calls _ _ w (fai_fin a).2).mono ?_
  rintro e w' ⟨rfl, n, rfl⟩
  exact ⟨rfl, pw_below_drewN (Below.refl _ _) _⟩
/-- Is there such a refusal? -/
def rightB (c f : Int) : Bool := pubB c && faiB f
theorem right_c {c f : Int} (hc : 0 ≤ c ∧ c < 256) (hf : 0 ≤ f ∧ f < 256) (w : World) : Calls Try.prog 23 #[.agg #[.int .u8 c, .int .u8 f]] w fun e w' => e = .returned (.bool (rightB c f)) ∧ Below w.heap.size w w' := by
  refine refusal_pair_right.calls c f _ w ?_
  obtain ⟨a, rfl⟩ := byte_fin hc
  obtain ⟨b, rfl⟩ := byte_fin hf
  unfold refusal_pair_right.f rightB
  rw [(pub_fin a).1, (fai_fin b).1]
  simp only [Option.bind_some]
  by_cases h0 : a.val = 0
  · rw [(pub_fin a).2.2.2 h0]
    by_cases hb : b.val = 0 <;> simp [h0, hb]
  · have e : (!((a.val : Int) == 0) || !((b.val : Int) == 0)) = true := by simp; omega
    rw [if_pos e]
    cases pubB (a.val : Int) <;> simp

set_option maxHeartbeats 16000000 in
set_option maxRecDepth 100000 in
theorem parse_nil (A : Option Addr) (c : Nat) (l : List Int) (w : World) (hr : Kd.C (Kd.int .u8) w A l.length l) (hb : isBytes l) (h0 : l.length = 0) :
    Calls Try.prog 8 #[.slice A l.length c] w fun en w' => ∃ cx, en = .returned (.tuple #[.agg cx, .int .i64 2]) ∧ IsMsg w' cx zeroM ∧ Below w.heap.size w w' := by
  have HR := Aside0.mk hr
  clear hr
  have H := Aside0.mk (Held.start w)
  obtain ⟨x0, x1⟩ := isBytes_rd hb 0
  obtain ⟨y0, y1⟩ := isBytes_rd hb 1
  generalize hx : l.getD 0 0 = x at *
  generalize hy : l.getD 1 0 = y at *
  clear hx hy
  have e0 : (l.length == 0) = true := beq_iff_eq.2 (by omega)
  have e0_ : ((l.length : Int) == 0) = true := beq_iff_eq.2 (by omega)
  clear h0
  have HBB := Aside0.mk hb
  clear hb
  go_enter Try.func8, Try.ntmps8
  go_wp2_with (first | ((with_reducible refine gate_dst (N := 2) rfl ?_); refine ev_alloc rfl rfl ?_; intro g w1 hg_ h1_ h2_; have n0_ := Aside0.mk (H.out.new hg_ h1_ h2_); clear H; have H := n0_; clear n0_; clear h1_ h2_ hg_) | ((with_reducible refine gate_dst (N := 8) rfl ?_); refine ev_build (zeroC) rfl (by go_simp; first | rfl | done) ?_; intro cx hcx_; have M := Aside0.mk (show ∀ W, IsMsg W cx _ from fun W => by rw [hcx_]; exact zero_is W); clear hcx_) | ((with_reducible refine gate_op (u := .store 30 (.tmp 2) (.tmp 8)) rfl ?_); refine ev_store rfl rfl rfl rfl H.out (i := 0) rfl (rfl) (M.out w) ?_; intro w2 h3_ h4_; have n0_ := Aside0.mk (h3_); clear H; have H := n0_; clear n0_; clear h3_ h4_))
  refine bodyPost_ret (results_ct rfl _ _ g 30 cx (0, 0) _ rfl (H.out.at 0 rfl) Try.underlying30 rfl (msg_info ((M.out w).size))) rfl (⟨cx, rfl, M.out _, H.out.b⟩)
set_option maxHeartbeats 16000000 in
set_option maxRecDepth 100000 in
theorem parse_low (A : Option Addr) (c : Nat) (l : List Int) (w : World) (hr : Kd.C (Kd.int .u8) w A l.length l) (hb : isBytes l) (h0 : 0 < l.length) (h1 : l.getD 0 0 < 128) :
    Calls Try.prog 8 #[.slice A l.length c] w fun en w' => ∃ cx, en = .returned (.tuple #[.agg cx, .int .i64 4]) ∧ IsMsg w' cx zeroM ∧ Below w.heap.size w w' := by
  have HR := Aside0.mk hr
  clear hr
  have H := Aside0.mk (Held.start w)
  obtain ⟨x0, x1⟩ := isBytes_rd hb 0
  obtain ⟨y0, y1⟩ := isBytes_rd hb 1
  obtain ⟨ad, rfl, q0_⟩ := at_u8 HR.out 0 (by omega)
  rw [Addr.add_zero'] at q0_
  have Q0 := Aside0.mk q0_
  clear q0_
  generalize hx : l.getD 0 0 = x at *
  generalize hy : l.getD 1 0 = y at *
  clear hx hy
  have e0 : (l.length == 0) = false := beq_eq_false_iff_ne.2 (by omega)
  have e0_ : ((l.length : Int) == 0) = false := beq_eq_false_iff_ne.2 (by omega)
  have d1 : decide (x < 128) = true := decide_eq_true (by omega)
  clear h1
  have HBB := Aside0.mk hb
  clear hb
  go_enter Try.func8, Try.ntmps8
  go_wp2_with (first | ((with_reducible refine gate_dst (N := 2) rfl ?_); refine ev_alloc rfl rfl ?_; intro g w1 hg_ h1_ h2_; have n0_ := Aside0.mk (H.out.new hg_ h1_ h2_); clear H; have H := n0_; clear n0_; clear h1_ h2_ hg_; have q0 := (H.out.b.cell (World.block_lt_of_cell? w _ Q0.out)).trans Q0.out) | ((with_reducible refine gate_dst (N := 22) rfl ?_); refine ev_build (zeroC) rfl (by go_simp; first | rfl | done) ?_; intro cx hcx_; have M := Aside0.mk (show ∀ W, IsMsg W cx _ from fun W => by rw [hcx_]; exact zero_is W); clear hcx_) | ((with_reducible refine gate_op (u := .store 30 (.tmp 2) (.tmp 22)) rfl ?_); refine ev_store rfl rfl rfl rfl H.out (i := 0) rfl (rfl) (M.out w) ?_; intro w2 h3_ h4_; have n0_ := Aside0.mk (h3_); clear H; have H := n0_; clear n0_; clear h3_ h4_))
  refine bodyPost_ret (results_ct rfl _ _ g 30 cx (0, 0) _ rfl (H.out.at 0 rfl) Try.underlying30 rfl (msg_info ((M.out w).size))) rfl (⟨cx, rfl, M.out _, H.out.b⟩)
set_option maxHeartbeats 16000000 in
set_option maxRecDepth 100000 in
theorem parse_code (A : Option Addr) (c : Nat) (l : List Int) (w : World) (hr : Kd.C (Kd.int .u8) w A l.length l) (hb : isBytes l) (h0 : 0 < l.length) (h1 : ¬ l.getD 0 0 < 128) (h2 : pubB (l.getD 0 0 - 128) = false) :
    Calls Try.prog 8 #[.slice A l.length c] w fun en w' => ∃ cx, en = .returned (.tuple #[.agg cx, .int .i64 4]) ∧ IsMsg w' cx zeroM ∧ Below w.heap.size w w' := by
  have HR := Aside0.mk hr
  clear hr
  have H := Aside0.mk (Held.start w)
  obtain ⟨x0, x1⟩ := isBytes_rd hb 0
  obtain ⟨y0, y1⟩ := isBytes_rd hb 1
  obtain ⟨ad, rfl, q0_⟩ := at_u8 HR.out 0 (by omega)
  rw [Addr.add_zero'] at q0_
  have Q0 := Aside0.mk q0_
  clear q0_
  generalize hx : l.getD 0 0 = x at *
  generalize hy : l.getD 1 0 = y at *
  clear hx hy
  have e0 : (l.length == 0) = false := beq_eq_false_iff_ne.2 (by omega)
  have e0_ : ((l.length : Int) == 0) = false := beq_eq_false_iff_ne.2 (by omega)
  have d1 : decide (x < 128) = false := decide_eq_false (by omega)
  have HBB := Aside0.mk hb
  clear hb
  go_enter Try.func8, Try.ntmps8
  go_wp2_with (first | ((with_reducible refine gate_dst (N := 2) rfl ?_); refine ev_alloc rfl rfl ?_; intro g w1 hg_ h1_ h2_; have n0_ := Aside0.mk (H.out.new hg_ h1_ h2_); clear H; have H := n0_; clear n0_; clear h1_ h2_ hg_; have q0 := (H.out.b.cell (World.block_lt_of_cell? w _ Q0.out)).trans Q0.out) | (go_at_call 18; with_reducible refine (pub_c (c := x - 128) ⟨by omega, by omega⟩ _).mono ?_; rintro en wp ⟨rfl, hb_⟩; have n0_ := Aside0.mk (H.out.on hb_); clear H hb_; have H := n0_; clear n0_; have q0 := (H.out.b.cell (World.block_lt_of_cell? w _ Q0.out)).trans Q0.out) | ((with_reducible refine gate_dst (N := 22) rfl ?_); refine ev_build (zeroC) rfl (by go_simp; first | rfl | done) ?_; intro cx hcx_; have M := Aside0.mk (show ∀ W, IsMsg W cx _ from fun W => by rw [hcx_]; exact zero_is W); clear hcx_) | ((with_reducible refine gate_op (u := .store 30 (.tmp 2) (.tmp 22)) rfl ?_); refine ev_store rfl rfl rfl rfl H.out (i := 0) rfl (rfl) (M.out w) ?_; intro w2 h3_ h4_; have n0_ := Aside0.mk (h3_); clear H; have H := n0_; clear n0_; clear h3_ h4_))
  refine bodyPost_ret (results_ct rfl _ _ g 30 cx (0, 0) _ rfl (H.out.at 0 rfl) Try.underlying30 rfl (msg_info ((M.out w).size))) rfl (⟨cx, rfl, M.out _, H.out.b⟩)
set_option maxHeartbeats 16000000 in
set_option maxRecDepth 100000 in
theorem parse_one (A : Option Addr) (c : Nat) (l : List Int) (w : World) (hr : Kd.C (Kd.int .u8) w A l.length l) (hb : isBytes l) (h0 : l.length = 1) (h1 : ¬ l.getD 0 0 < 128) (h2 : pubB (l.getD 0 0 - 128) = true) :
    Calls Try.prog 8 #[.slice A l.length c] w fun en w' => ∃ cx, en = .returned (.tuple #[.agg cx, .int .i64 2]) ∧ IsMsg w' cx zeroM ∧ Below w.heap.size w w' := by
  have HR := Aside0.mk hr
  clear hr
  have H := Aside0.mk (Held.start w)
  obtain ⟨x0, x1⟩ := isBytes_rd hb 0
  obtain ⟨y0, y1⟩ := isBytes_rd hb 1
  obtain ⟨ad, rfl, q0_⟩ := at_u8 HR.out 0 (by omega)
  rw [Addr.add_zero'] at q0_
  have Q0 := Aside0.mk q0_
  clear q0_
  generalize hx : l.getD 0 0 = x at *
  generalize hy : l.getD 1 0 = y at *
  clear hx hy
  have e0 : (l.length == 0) = false := beq_eq_false_iff_ne.2 (by omega)
  have e0_ : ((l.length : Int) == 0) = false := beq_eq_false_iff_ne.2 (by omega)
  have e1 : (l.length == 1) = true := beq_iff_eq.2 (by omega)
  have e1_ : ((l.length : Int) == 1) = true := beq_iff_eq.2 (by omega)
  have d1 : decide (x < 128) = false := decide_eq_false (by omega)
  have HBB := Aside0.mk hb
  clear hb
  go_enter Try.func8, Try.ntmps8
  go_wp2_with (first | ((with_reducible refine gate_dst (N := 2) rfl ?_); refine ev_alloc rfl rfl ?_; intro g w1 hg_ h1_ h2_; have n0_ := Aside0.mk (H.out.new hg_ h1_ h2_); clear H; have H := n0_; clear n0_; clear h1_ h2_ hg_; have q0 := (H.out.b.cell (World.block_lt_of_cell? w _ Q0.out)).trans Q0.out) | (go_at_call 18; with_reducible refine (pub_c (c := x - 128) ⟨by omega, by omega⟩ _).mono ?_; rintro en wp ⟨rfl, hb_⟩; have n0_ := Aside0.mk (H.out.on hb_); clear H hb_; have H := n0_; clear n0_; have q0 := (H.out.b.cell (World.block_lt_of_cell? w _ Q0.out)).trans Q0.out) | ((with_reducible refine gate_dst (N := 27) rfl ?_); refine ev_build (zeroC) rfl (by go_simp; first | rfl | done) ?_; intro cx hcx_; have M := Aside0.mk (show ∀ W, IsMsg W cx _ from fun W => by rw [hcx_]; exact zero_is W); clear hcx_) | ((with_reducible refine gate_op (u := .store 30 (.tmp 2) (.tmp 27)) rfl ?_); refine ev_store rfl rfl rfl rfl H.out (i := 0) rfl (rfl) (M.out w) ?_; intro w2 h3_ h4_; have n0_ := Aside0.mk (h3_); clear H; have H := n0_; clear n0_; clear h3_ h4_))
  refine bodyPost_ret (results_ct rfl _ _ g 30 cx (0, 0) _ rfl (H.out.at 0 rfl) Try.underlying30 rfl (msg_info ((M.out w).size))) rfl (⟨cx, rfl, M.out _, H.out.b⟩)
set_option maxHeartbeats 16000000 in
set_option maxRecDepth 100000 in
theorem parse_fail (A : Option Addr) (c : Nat) (l : List Int) (w : World) (hr : Kd.C (Kd.int .u8) w A l.length l) (hb : isBytes l) (h0 : 1 < l.length) (h1 : ¬ l.getD 0 0 < 128) (h2 : pubB (l.getD 0 0 - 128) = true) (h3 : faiB (l.getD 1 0) = false) :
    Calls Try.prog 8 #[.slice A l.length c] w fun en w' => ∃ cx, en = .returned (.tuple #[.agg cx, .int .i64 6]) ∧ IsMsg w' cx zeroM ∧ Below w.heap.size w w' := by
  have HR := Aside0.mk hr
  clear hr
  have H := Aside0.mk (Held.start w)
  obtain ⟨x0, x1⟩ := isBytes_rd hb 0
  obtain ⟨y0, y1⟩ := isBytes_rd hb 1
  obtain ⟨ad, rfl, q0_⟩ := at_u8 HR.out 0 (by omega)
  rw [Addr.add_zero'] at q0_
  have Q0 := Aside0.mk q0_
  clear q0_
  obtain ⟨ad_, e1_, q1_⟩ := at_u8 HR.out 1 (by omega)
  obtain rfl : ad = ad_ := Option.some.inj e1_
  clear e1_
  replace q1_ : w.cell? ⟨ad.block, ad.off + 1, none⟩ = some (.int .u8 (l.getD 1 0)) := q1_
  have Q1 := Aside0.mk q1_
  clear q1_
  generalize hx : l.getD 0 0 = x at *
  generalize hy : l.getD 1 0 = y at *
  clear hx hy
  have e0 : (l.length == 0) = false := beq_eq_false_iff_ne.2 (by omega)
  have e0_ : ((l.length : Int) == 0) = false := beq_eq_false_iff_ne.2 (by omega)
  have e1 : (l.length == 1) = false := beq_eq_false_iff_ne.2 (by omega)
  have e1_ : ((l.length : Int) == 1) = false := beq_eq_false_iff_ne.2 (by omega)
  have d1 : decide (x < 128) = false := decide_eq_false (by omega)
  have HBB := Aside0.mk hb
  clear hb
  go_enter Try.func8, Try.ntmps8
  go_wp2_with (first | ((with_reducible refine gate_dst (N := 2) rfl ?_); refine ev_alloc rfl rfl ?_; intro g w1 hg_ h1_ h2_; have n0_ := Aside0.mk (H.out.new hg_ h1_ h2_); clear H; have H := n0_; clear n0_; clear h1_ h2_ hg_; have q0 := (H.out.b.cell (World.block_lt_of_cell? w _ Q0.out)).trans Q0.out; have q1 := (H.out.b.cell (World.block_lt_of_cell? w _ Q1.out)).trans Q1.out) | (go_at_call 18; with_reducible refine (pub_c (c := x - 128) ⟨by omega, by omega⟩ _).mono ?_; rintro en wp ⟨rfl, hb_⟩; have n0_ := Aside0.mk (H.out.on hb_); clear H hb_; have H := n0_; clear n0_; have q0 := (H.out.b.cell (World.block_lt_of_cell? w _ Q0.out)).trans Q0.out; have q1 := (H.out.b.cell (World.block_lt_of_cell? w _ Q1.out)).trans Q1.out) | (go_at_call 19; with_reducible refine (fai_c (c := y) ⟨by omega, by omega⟩ _).mono ?_; rintro en wf ⟨rfl, hb_⟩; have n0_ := Aside0.mk (H.out.on hb_); clear H hb_; have H := n0_; clear n0_; have q0 := (H.out.b.cell (World.block_lt_of_cell? w _ Q0.out)).trans Q0.out; have q1 := (H.out.b.cell (World.block_lt_of_cell? w _ Q1.out)).trans Q1.out) | ((with_reducible refine gate_dst (N := 34) rfl ?_); refine ev_build (zeroC) rfl (by go_simp; first | rfl | done) ?_; intro cx hcx_; have M := Aside0.mk (show ∀ W, IsMsg W cx _ from fun W => by rw [hcx_]; exact zero_is W); clear hcx_) | ((with_reducible refine gate_op (u := .store 30 (.tmp 2) (.tmp 34)) rfl ?_); refine ev_store rfl rfl rfl rfl H.out (i := 0) rfl (rfl) (M.out w) ?_; intro w2 h3_ h4_; have n0_ := Aside0.mk (h3_); clear H; have H := n0_; clear n0_; clear h3_ h4_))
  refine bodyPost_ret (results_ct rfl _ _ g 30 cx (0, 0) _ rfl (H.out.at 0 rfl) Try.underlying30 rfl (msg_info ((M.out w).size))) rfl (⟨cx, rfl, M.out _, H.out.b⟩)
set_option maxHeartbeats 16000000 in
set_option maxRecDepth 100000 in
theorem parse_long (A : Option Addr) (c : Nat) (l : List Int) (w : World) (hr : Kd.C (Kd.int .u8) w A l.length l) (hb : isBytes l) (h0 : 2 < l.length) (h1 : ¬ l.getD 0 0 < 128) (h2 : pubB (l.getD 0 0 - 128) = true) (h3 : faiB (l.getD 1 0) = true) :
    Calls Try.prog 8 #[.slice A l.length c] w fun en w' => ∃ cx, en = .returned (.tuple #[.agg cx, .int .i64 3]) ∧ IsMsg w' cx zeroM ∧ Below w.heap.size w w' := by
  have HR := Aside0.mk hr
  clear hr
  have H := Aside0.mk (Held.start w)
  obtain ⟨x0, x1⟩ := isBytes_rd hb 0
  obtain ⟨y0, y1⟩ := isBytes_rd hb 1
  obtain ⟨ad, rfl, q0_⟩ := at_u8 HR.out 0 (by omega)
  rw [Addr.add_zero'] at q0_
  have Q0 := Aside0.mk q0_
  clear q0_
  obtain ⟨ad_, e1_, q1_⟩ := at_u8 HR.out 1 (by omega)
  obtain rfl : ad = ad_ := Option.some.inj e1_
  clear e1_
  replace q1_ : w.cell? ⟨ad.block, ad.off + 1, none⟩ = some (.int .u8 (l.getD 1 0)) := q1_
  have Q1 := Aside0.mk q1_
  clear q1_
  generalize hx : l.getD 0 0 = x at *
  generalize hy : l.getD 1 0 = y at *
  clear hx hy
  have e0 : (l.length == 0) = false := beq_eq_false_iff_ne.2 (by omega)
  have e0_ : ((l.length : Int) == 0) = false := beq_eq_false_iff_ne.2 (by omega)
  have e1 : (l.length == 1) = false := beq_eq_false_iff_ne.2 (by omega)
  have e1_ : ((l.length : Int) == 1) = false := beq_eq_false_iff_ne.2 (by omega)
  have e2 : decide ((l.length : Int) > 2) = true := decide_eq_true (by omega)
  have e2_ : decide ((2 : Int) < (l.length : Int)) = true := decide_eq_true (by omega)
  have d1 : decide (x < 128) = false := decide_eq_false (by omega)
  have HBB := Aside0.mk hb
  clear hb
  go_enter Try.func8, Try.ntmps8
  go_wp2_with (first | ((with_reducible refine gate_dst (N := 2) rfl ?_); refine ev_alloc rfl rfl ?_; intro g w1 hg_ h1_ h2_; have n0_ := Aside0.mk (H.out.new hg_ h1_ h2_); clear H; have H := n0_; clear n0_; clear h1_ h2_ hg_; have q0 := (H.out.b.cell (World.block_lt_of_cell? w _ Q0.out)).trans Q0.out; have q1 := (H.out.b.cell (World.block_lt_of_cell? w _ Q1.out)).trans Q1.out) | (go_at_call 18; with_reducible refine (pub_c (c := x - 128) ⟨by omega, by omega⟩ _).mono ?_; rintro en wp ⟨rfl, hb_⟩; have n0_ := Aside0.mk (H.out.on hb_); clear H hb_; have H := n0_; clear n0_; have q0 := (H.out.b.cell (World.block_lt_of_cell? w _ Q0.out)).trans Q0.out; have q1 := (H.out.b.cell (World.block_lt_of_cell? w _ Q1.out)).trans Q1.out) | (go_at_call 19; with_reducible refine (fai_c (c := y) ⟨by omega, by omega⟩ _).mono ?_; rintro en wf ⟨rfl, hb_⟩; have n0_ := Aside0.mk (H.out.on hb_); clear H hb_; have H := n0_; clear n0_; have q0 := (H.out.b.cell (World.block_lt_of_cell? w _ Q0.out)).trans Q0.out; have q1 := (H.out.b.cell (World.block_lt_of_cell? w _ Q1.out)).trans Q1.out) | ((with_reducible refine gate_dst (N := 39) rfl ?_); refine ev_build (zeroC) rfl (by go_simp; first | rfl | done) ?_; intro cx hcx_; have M := Aside0.mk (show ∀ W, IsMsg W cx _ from fun W => by rw [hcx_]; exact zero_is W); clear hcx_) | ((with_reducible refine gate_op (u := .store 30 (.tmp 2) (.tmp 39)) rfl ?_); refine ev_store rfl rfl rfl rfl H.out (i := 0) rfl (rfl) (M.out w) ?_; intro w2 h3_ h4_; have n0_ := Aside0.mk (h3_); clear H; have H := n0_; clear n0_; clear h3_ h4_))
  refine bodyPost_ret (results_ct rfl _ _ g 30 cx (0, 0) _ rfl (H.out.at 0 rfl) Try.underlying30 rfl (msg_info ((M.out w).size))) rfl (⟨cx, rfl, M.out _, H.out.b⟩)
def rparse.T11 : Bool × List (List Nat × List Nat) := (true, [([], []), ([0], [0]), ([1], [1]), ([2], [2]), ([], []), ([4], [4]), ([5], [5]), ([3, 6], [3, 6]), ([7], [7]), ([8, 8, 0, 1, 2, 3, 4, 5, 6, 7, 8], [8]), ([9, 0, 1, 2, 3, 4, 5, 6, 7, 8, 9], [])])
def rparse.B11 : List Nat := [0, 1, 3, 7, 0, 16, 48, 127, 255, 511, 1023]
theorem rparse.tab11 : rtab .any (opsOf Try.f8 11) = rparse.T11 := by kernel_rfl
theorem rparse.bits11 : waitsOk rparse.T11.2 rparse.B11 = true := by kernel_rfl
set_option maxHeartbeats 16000000 in
set_option maxRecDepth 100000 in
theorem parse_ok (A : Option Addr) (c : Nat) (l : List Int) (w : World) (hr : Kd.C (Kd.int .u8) w A l.length l) (hb : isBytes l) (h0 : l.length = 2) (h1 : ¬ l.getD 0 0 < 128) (h2 : pubB (l.getD 0 0 - 128) = true) (h3 : faiB (l.getD 1 0) = true) :
    Calls Try.prog 8 #[.slice A l.length c] w fun en w' => ∃ cx, en = .returned (.tuple #[.agg cx, .int .i64 0]) ∧ IsMsg w' cx (msg2 (l.getD 0 0 - 128) (l.getD 1 0)) ∧ Below w.heap.size w w' := by
  have HR := Aside0.mk hr
  clear hr
  have H := Aside0.mk (Held.start w)
  obtain ⟨x0, x1⟩ := isBytes_rd hb 0
  obtain ⟨y0, y1⟩ := isBytes_rd hb 1
  obtain ⟨ad, rfl, q0_⟩ := at_u8 HR.out 0 (by omega)
  rw [Addr.add_zero'] at q0_
  have Q0 := Aside0.mk q0_
  clear q0_
  obtain ⟨ad_, e1_, q1_⟩ := at_u8 HR.out 1 (by omega)
  obtain rfl : ad = ad_ := Option.some.inj e1_
  clear e1_
  replace q1_ : w.cell? ⟨ad.block, ad.off + 1, none⟩ = some (.int .u8 (l.getD 1 0)) := q1_
  have Q1 := Aside0.mk q1_
  clear q1_
  generalize hx : l.getD 0 0 = x at *
  generalize hy : l.getD 1 0 = y at *
  clear hx hy
  have e0 : (l.length == 0) = false := beq_eq_false_iff_ne.2 (by omega)
  have e0_ : ((l.length : Int) == 0) = false := beq_eq_false_iff_ne.2 (by omega)
  have e1 : (l.length == 1) = false := beq_eq_false_iff_ne.2 (by omega)
  have e1_ : ((l.length : Int) == 1) = false := beq_eq_false_iff_ne.2 (by omega)
  have e2 : decide ((l.length : Int) > 2) = false := decide_eq_false (by omega)
  have e2_ : decide ((2 : Int) < (l.length : Int)) = false := decide_eq_false (by omega)
  have d1 : decide (x < 128) = false := decide_eq_false (by omega)
  have HBB := Aside0.mk hb
  clear hb
  have h0_ : 1 < l.length := by omega
  have h00 : 0 < l.length := by omega
  have h01 : (1 : Int) < (l.length : Int) := by omega
  have h02 : (0 : Int) < (l.length : Int) := by omega
  clear h0
  have wx : IntKind.u8.wrap (x - 128) = x - 128 := by simp [IntKind.wrap, IntKind.bits, IntKind.signed]; omega
  go_enter Try.func8, Try.ntmps8
  go_upto_region 11 with (first | ((with_reducible refine gate_dst (N := 2) rfl ?_); refine ev_alloc rfl rfl ?_; intro g w1 hg_ h1_ h2_; have n0_ := Aside0.mk (H.out.new hg_ h1_ h2_); clear H; have H := n0_; clear n0_; clear h1_ h2_ hg_; have q0 := (H.out.b.cell (World.block_lt_of_cell? w _ Q0.out)).trans Q0.out; have q1 := (H.out.b.cell (World.block_lt_of_cell? w _ Q1.out)).trans Q1.out) | (go_at_call 18; with_reducible refine (pub_c (c := x - 128) ⟨by omega, by omega⟩ _).mono ?_; rintro en wp ⟨rfl, hb_⟩; have n0_ := Aside0.mk (H.out.on hb_); clear H hb_; have H := n0_; clear n0_; have q0 := (H.out.b.cell (World.block_lt_of_cell? w _ Q0.out)).trans Q0.out; have q1 := (H.out.b.cell (World.block_lt_of_cell? w _ Q1.out)).trans Q1.out) | (go_at_call 19; with_reducible refine (fai_c (c := y) ⟨by omega, by omega⟩ _).mono ?_; rintro en wf ⟨rfl, hb_⟩; have n0_ := Aside0.mk (H.out.on hb_); clear H hb_; have H := n0_; clear n0_; have q0 := (H.out.b.cell (World.block_lt_of_cell? w _ Q0.out)).trans Q0.out; have q1 := (H.out.b.cell (World.block_lt_of_cell? w _ Q1.out)).trans Q1.out))
  refine start_ (n := 11) (S := fun w' => w'.cell? ad = some (.int .u8 x) ∧ w'.cell? ⟨ad.block, ad.off + 1, none⟩ = some (.int .u8 y) ∧ Aside0 (Held w [(g, zeroC)] w')) (ds := [9]) (bm 11 0) (by as_aux_lemma => kernel_rfl) rfl (by as_aux_lemma => kernel_rfl) ⟨((H.out.drew.b.cell (World.block_lt_of_cell? w _ Q0.out)).trans Q0.out), ((H.out.drew.b.cell (World.block_lt_of_cell? w _ Q1.out)).trans Q1.out), (Aside0.mk H.out.drew)⟩ (fun hHeld => ?_)
  refine with_tabW rparse.tab11 rparse.bits11 (fun HT_ HW_ => ?_)
  refine pure_ (i := 0) (N := some 40) (v := ?_) (a' := ?_) (bm 11 1) rfl rfl (any_of HT_.out (by as_aux_lemma => kernel_rfl)) (fun _ _ _ h => h) (Or.inl ⟨by rfl, ?_⟩) ?_ ?_
  rotate_left
  · intro w'
    go_simp
    with_reducible rfl
  rotate_left
  · simp only [Act.put, List.setIfInBounds_toArray, List.set_cons_zero, List.set_cons_succ, i64_w, i32_w]
    rfl
  refine pure_ (i := 1) (N := some 41) (v := ?_) (a' := ?_) (bm 11 3) rfl rfl (any_of HT_.out (by as_aux_lemma => kernel_rfl)) (fun _ _ _ h => h) (Or.inl ⟨by rfl, ?_⟩) ?_ ?_
  rotate_left
  · intro w'
    go_simp
    with_reducible rfl
  rotate_left
  · simp only [Act.put, List.setIfInBounds_toArray, List.set_cons_zero, List.set_cons_succ, i64_w, i32_w]
    rfl
  refine pure_ (i := 4) (N := some 44) (v := ?_) (a' := ?_) (bm 11 19) rfl rfl (any_of HT_.out (by as_aux_lemma => kernel_rfl)) (fun _ _ _ h => h) (Or.inl ⟨by rfl, ?_⟩) ?_ ?_
  rotate_left
  · intro w'
    go_simp
    with_reducible rfl
  rotate_left
  · simp only [Act.put, List.setIfInBounds_toArray, List.set_cons_zero, List.set_cons_succ, i64_w, i32_w]
    rfl
  refine pure_ (i := 5) (N := some 45) (v := ?_) (a' := ?_) (bm 11 51) rfl rfl (any_of HT_.out (by as_aux_lemma => kernel_rfl)) (fun _ _ _ h => h) (Or.inl ⟨by rfl, ?_⟩) ?_ ?_
  rotate_left
  · intro w'
    go_simp
    with_reducible rfl
  rotate_left
  · simp only [Act.put, List.setIfInBounds_toArray, List.set_cons_zero, List.set_cons_succ, i64_w, i32_w]
    rfl
  refine take_ (i := 2) (N := some 42) (v := ?_) (a' := ?_) (bm 11 55) rfl rfl (take_ofW HT_.out HW_.out (by as_aux_lemma => kernel_rfl)) (fun _ _ _ h => h) (Or.inl ⟨by rfl, ?_⟩) hHeld ?_ ?_
  rotate_left
  · rintro w' ⟨s0, s1, s2⟩
    go_simp
    with_reducible rfl
  rotate_left
  · simp only [Act.put, List.setIfInBounds_toArray, List.set_cons_zero, List.set_cons_succ, i64_w, i32_w]
    rfl
  refine pure_ (i := 3) (N := some 43) (v := ?_) (a' := ?_) (bm 11 63) rfl rfl (any_of HT_.out (by as_aux_lemma => kernel_rfl)) (fun _ _ _ h => h) (Or.inl ⟨by rfl, ?_⟩) ?_ ?_
  rotate_left
  · intro w'
    go_simp
    with_reducible rfl
  rotate_left
  · simp only [Act.put, List.setIfInBounds_toArray, List.set_cons_zero, List.set_cons_succ, i64_w, i32_w]
    rfl
  refine take_ (i := 6) (N := some 46) (v := ?_) (a' := ?_) (bm 11 127) rfl rfl (take_ofW HT_.out HW_.out (by as_aux_lemma => kernel_rfl)) (fun _ _ _ h => h) (Or.inl ⟨by rfl, ?_⟩) hHeld ?_ ?_
  rotate_left
  · rintro w' ⟨s0, s1, s2⟩
    go_simp
    with_reducible rfl
  rotate_left
  · simp only [Act.put, List.setIfInBounds_toArray, List.set_cons_zero, List.set_cons_succ, i64_w, i32_w]
    rfl
  refine pure_ (i := 7) (N := some 47) (v := ?_) (a' := ?_) (bm 11 255) rfl rfl (any_of HT_.out (by as_aux_lemma => kernel_rfl)) (fun _ _ _ h => h) (Or.inl ⟨by rfl, ?_⟩) ?_ ?_
  rotate_left
  · intro w'
    go_simp
    with_reducible rfl
  rotate_left
  · simp only [Act.put, List.setIfInBounds_toArray, List.set_cons_zero, List.set_cons_succ, i64_w, i32_w]
    rfl
  refine one_ (i := 8) (N := some 48) (bm 11 511) rfl rfl (one_of HT_.out (by as_aux_lemma => kernel_rfl)) (by as_aux_lemma => decide) (fun K hK => ?_)
  refine goes_ Try.func20 (by as_aux_lemma => kernel_rfl) rfl #[.agg #[.int .u8 (x - 128), .int .u8 y]] (by rfl) rfl rfl (by simp only [List.map_toArray, List.map_cons, List.map_nil]; rfl) ?_
  with_reducible refine (of_any (x - 128) y ⟨by omega, by omega⟩ ⟨by omega, by omega⟩ _).mono ?_
  rintro en w5 ⟨rfl, hb_⟩
  have n0_ := Aside0.mk (hHeld.2.2.out.on hb_)
  clear H
  have H := n0_
  clear n0_ hb_
  refine ⟨_, rfl, ?_⟩
  refine hK.out _ _ ⟨((H.out.b.cell (World.block_lt_of_cell? w _ Q0.out)).trans Q0.out), ((H.out.b.cell (World.block_lt_of_cell? w _ Q1.out)).trans Q1.out), H⟩ (fun hHeld => ?_)
  clear hK K
  refine norm_ (a' := ?_) ?_ ?_
  rotate_left
  · show Act.put _ (some 48) _ = _
    simp only [Act.put, List.setIfInBounds_toArray, List.set_cons_zero, List.set_cons_succ, i64_w, i32_w]
    rfl
  refine last_ (i := 9) (N := none) (bm 11 1023) rfl rfl (one_of HT_.out (by as_aux_lemma => kernel_rfl)) (by as_aux_lemma => decide) (fun K hK => ?_)
  refine store_ (x := .tmp 2) (y := .tmp 48) (by rfl) rfl rfl rfl rfl H.out (i := 0) rfl (rfl) (msg2_is (c := x - 128) (f := y) ⟨by omega, by omega⟩ ⟨by omega, by omega⟩ w) ?_
  intro w9 h3_ h4_
  have n0_ := Aside0.mk (h3_); clear H; have H := n0_; clear n0_; clear h3_ h4_
  refine hK.out _ _ ?_
  clear hK K
  refine pure_ (i := 10) (N := some 3) (v := ?_) (a' := ?_) (bm 11 2047) rfl rfl (any_of HT_.out (by as_aux_lemma => kernel_rfl)) (fun _ _ _ h => h) (Or.inl ⟨by rfl, ?_⟩) ?_ ?_
  rotate_left
  · intro w'
    go_simp
    with_reducible rfl
  rotate_left
  · simp only [Act.put, List.setIfInBounds_toArray, List.set_cons_zero, List.set_cons_succ, i64_w, i32_w]
    rfl
  refine done_ (done_of HT_.out (by as_aux_lemma => kernel_rfl)) ?_
  
  go_wp2
  refine bodyPost_ret (results_ct rfl _ _ g 30 _ (0, 0) _ rfl (H.out.at 0 rfl) Try.underlying30 rfl (msg_info (rfl))) rfl (⟨_, rfl, msg2_is ⟨by omega, by omega⟩ ⟨by omega, by omega⟩ _, H.out.b⟩)
/-- What bytes are as a refusal: the message, and what is wrong. -/
def parse (l : List Int) : Msg × Int :=
  if l.length = 0 then (zeroM, 2) else if l.getD 0 0 < 128 then (zeroM, 4) else if pubB (l.getD 0 0 - 128) = false then (zeroM, 4) else if l.length = 1 then (zeroM, 2) else if faiB (l.getD 1 0) = false then (zeroM, 6) else if 2 < l.length then (zeroM, 3) else (msg2 (l.getD 0 0 - 128) (l.getD 1 0), 0)
theorem parse_split {P : Msg × Int → Prop} (l : List Int) (a0 : l.length = 0 → P (zeroM, 2)) (a1 : 0 < l.length → l.getD 0 0 < 128 → P (zeroM, 4)) (a2 : 0 < l.length → ¬ l.getD 0 0 < 128 → pubB (l.getD 0 0 - 128) = false → P (zeroM, 4))
    (a3 : l.length = 1 → ¬ l.getD 0 0 < 128 → pubB (l.getD 0 0 - 128) = true → P (zeroM, 2)) (a4 : 1 < l.length → ¬ l.getD 0 0 < 128 → pubB (l.getD 0 0 - 128) = true → faiB (l.getD 1 0) = false → P (zeroM, 6))
    (a5 : 2 < l.length → ¬ l.getD 0 0 < 128 → pubB (l.getD 0 0 - 128) = true → faiB (l.getD 1 0) = true → P (zeroM, 3)) (a6 : l.length = 2 → ¬ l.getD 0 0 < 128 → pubB (l.getD 0 0 - 128) = true → faiB (l.getD 1 0) = true → P (msg2 (l.getD 0 0 - 128) (l.getD 1 0), 0)) : P (parse l) := by
  unfold parse
  by_cases h0 : l.length = 0
  · rw [if_pos h0]; exact a0 h0
  rw [if_neg h0]
  by_cases h1 : l.getD 0 0 < 128
  · rw [if_pos h1]; exact a1 (by omega) h1
  rw [if_neg h1]
  cases h2 : pubB (l.getD 0 0 - 128) with
  | false => rw [if_pos rfl]; exact a2 (by omega) h1 h2
  | true =>
  rw [if_neg (by simp)]
  by_cases h3 : l.length = 1
  · rw [if_pos h3]; exact a3 h3 h1 h2
  rw [if_neg h3]
  cases h4 : faiB (l.getD 1 0) with
  | false => rw [if_pos rfl]; exact a4 (by omega) h1 h2 h4
  | true =>
  rw [if_neg (by simp)]
  by_cases h5 : 2 < l.length
  · rw [if_pos h5]; exact a5 h5 h1 h2 h4
  rw [if_neg h5]
  exact a6 (by omega) h1 h2 h4
theorem parse_any (A : Option Addr) (c : Nat) (l : List Int) (w : World) (hr : Kd.C (Kd.int .u8) w A l.length l) (hb : isBytes l) :
    Calls Try.prog 8 #[.slice A l.length c] w fun en w' => ∃ cx, en = .returned (.tuple #[.agg cx, .int .i64 (parse l).2]) ∧ IsMsg w' cx (parse l).1 ∧ Below w.heap.size w w' :=
  parse_split (P := fun r => Calls Try.prog 8 #[.slice A l.length c] w fun en w' => ∃ cx, en = .returned (.tuple #[.agg cx, .int .i64 r.2]) ∧ IsMsg w' cx r.1 ∧ Below w.heap.size w w') l (parse_nil A c l w hr hb) (parse_low A c l w hr hb) (parse_code A c l w hr hb) (parse_one A c l w hr hb) (parse_fail A c l w hr hb) (parse_long A c l w hr hb) (parse_ok A c l w hr hb)
set_option maxHeartbeats 16000000 in
set_option maxRecDepth 100000 in
theorem rparse_nil (A : Option Addr) (c : Nat) (l : List Int) (w : World) (hr : Kd.C (Kd.int .u8) w A l.length l) (hb : isBytes l) (h0 : l.length = 0) :
    Calls Try.prog 9 #[.slice A l.length c] w fun en w' => ∃ cx, en = .returned (.tuple #[.agg cx, .int .i64 2]) ∧ IsMsg w' cx zeroM ∧ Below w.heap.size w w' := by
  have HR := Aside0.mk hr
  clear hr
  have H := Aside0.mk (Held.start w)
  obtain ⟨x0, x1⟩ := isBytes_rd hb 0
  obtain ⟨y0, y1⟩ := isBytes_rd hb 1
  generalize hx : l.getD 0 0 = x at *
  generalize hy : l.getD 1 0 = y at *
  clear hx hy
  have f1 : decide ((l.length : Int) < 1) = true := decide_eq_true (by omega)
  clear h0
  have HBB := Aside0.mk hb
  clear hb
  go_enter Try.func9, Try.ntmps9
  go_wp2_with (first | ((with_reducible refine gate_dst (N := 2) rfl ?_); refine ev_alloc rfl rfl ?_; intro g w1 hg_ h1_ h2_; have n0_ := Aside0.mk (H.out.new hg_ h1_ h2_); clear H; have H := n0_; clear n0_; clear h1_ h2_ hg_) | ((with_reducible refine gate_dst (N := 10) rfl ?_); refine ev_build (zeroC) rfl (by go_simp; first | rfl | done) ?_; intro cx hcx_; have M := Aside0.mk (show ∀ W, IsMsg W cx _ from fun W => by rw [hcx_]; exact zero_is W); clear hcx_) | ((with_reducible refine gate_op (u := .store 30 (.tmp 2) (.tmp 10)) rfl ?_); refine ev_store rfl rfl rfl rfl H.out (i := 0) rfl (rfl) (M.out w) ?_; intro w2 h3_ h4_; have n0_ := Aside0.mk (h3_); clear H; have H := n0_; clear n0_; clear h3_ h4_))
  refine bodyPost_ret (results_ct rfl _ _ g 30 cx (0, 0) _ rfl (H.out.at 0 rfl) Try.underlying30 rfl (msg_info ((M.out w).size))) rfl (⟨cx, rfl, M.out _, H.out.b⟩)
set_option maxHeartbeats 16000000 in
set_option maxRecDepth 100000 in
theorem rparse_low (A : Option Addr) (c : Nat) (l : List Int) (w : World) (hr : Kd.C (Kd.int .u8) w A l.length l) (hb : isBytes l) (h0 : 0 < l.length) (h1 : l.getD 0 0 < 128) :
    Calls Try.prog 9 #[.slice A l.length c] w fun en w' => ∃ cx, en = .returned (.tuple #[.agg cx, .int .i64 4]) ∧ IsMsg w' cx zeroM ∧ Below w.heap.size w w' := by
  have HR := Aside0.mk hr
  clear hr
  have H := Aside0.mk (Held.start w)
  obtain ⟨x0, x1⟩ := isBytes_rd hb 0
  obtain ⟨y0, y1⟩ := isBytes_rd hb 1
  obtain ⟨ad, rfl, q0_⟩ := at_u8 HR.out 0 (by omega)
  rw [Addr.add_zero'] at q0_
  have Q0 := Aside0.mk q0_
  clear q0_
  generalize hx : l.getD 0 0 = x at *
  generalize hy : l.getD 1 0 = y at *
  clear hx hy
  have f1 : decide ((l.length : Int) < 1) = false := decide_eq_false (by omega)
  have d1 : decide (x - 128 < 0) = true := decide_eq_true (by omega)
  have d2 : decide (x < 128) = true := decide_eq_true (by omega)
  clear h1
  have HBB := Aside0.mk hb
  clear hb
  go_enter Try.func9, Try.ntmps9
  go_wp2_with (first | ((with_reducible refine gate_dst (N := 2) rfl ?_); refine ev_alloc rfl rfl ?_; intro g w1 hg_ h1_ h2_; have n0_ := Aside0.mk (H.out.new hg_ h1_ h2_); clear H; have H := n0_; clear n0_; clear h1_ h2_ hg_; have q0 := (H.out.b.cell (World.block_lt_of_cell? w _ Q0.out)).trans Q0.out) | ((with_reducible refine gate_dst (N := 18) rfl ?_); refine ev_build (zeroC) rfl (by go_simp; first | rfl | done) ?_; intro cx hcx_; have M := Aside0.mk (show ∀ W, IsMsg W cx _ from fun W => by rw [hcx_]; exact zero_is W); clear hcx_) | ((with_reducible refine gate_op (u := .store 30 (.tmp 2) (.tmp 18)) rfl ?_); refine ev_store rfl rfl rfl rfl H.out (i := 0) rfl (rfl) (M.out w) ?_; intro w2 h3_ h4_; have n0_ := Aside0.mk (h3_); clear H; have H := n0_; clear n0_; clear h3_ h4_))
  refine bodyPost_ret (results_ct rfl _ _ g 30 cx (0, 0) _ rfl (H.out.at 0 rfl) Try.underlying30 rfl (msg_info ((M.out w).size))) rfl (⟨cx, rfl, M.out _, H.out.b⟩)
set_option maxHeartbeats 16000000 in
set_option maxRecDepth 100000 in
theorem rparse_code (A : Option Addr) (c : Nat) (l : List Int) (w : World) (hr : Kd.C (Kd.int .u8) w A l.length l) (hb : isBytes l) (h0 : 0 < l.length) (h1 : ¬ l.getD 0 0 < 128) (h2 : pubB (l.getD 0 0 - 128) = false) :
    Calls Try.prog 9 #[.slice A l.length c] w fun en w' => ∃ cx, en = .returned (.tuple #[.agg cx, .int .i64 4]) ∧ IsMsg w' cx zeroM ∧ Below w.heap.size w w' := by
  have HR := Aside0.mk hr
  clear hr
  have H := Aside0.mk (Held.start w)
  obtain ⟨x0, x1⟩ := isBytes_rd hb 0
  obtain ⟨y0, y1⟩ := isBytes_rd hb 1
  obtain ⟨ad, rfl, q0_⟩ := at_u8 HR.out 0 (by omega)
  rw [Addr.add_zero'] at q0_
  have Q0 := Aside0.mk q0_
  clear q0_
  generalize hx : l.getD 0 0 = x at *
  generalize hy : l.getD 1 0 = y at *
  clear hx hy
  have f1 : decide ((l.length : Int) < 1) = false := decide_eq_false (by omega)
  have d1 : decide (x - 128 < 0) = false := decide_eq_false (by omega)
  have d2 : decide (x < 128) = false := decide_eq_false (by omega)
  have wx : IntKind.u8.wrap (x - 128) = x - 128 := by simp [IntKind.wrap, IntKind.bits, IntKind.signed]; omega
  have HBB := Aside0.mk hb
  clear hb
  go_enter Try.func9, Try.ntmps9
  go_wp2_with (first | ((with_reducible refine gate_dst (N := 2) rfl ?_); refine ev_alloc rfl rfl ?_; intro g w1 hg_ h1_ h2_; have n0_ := Aside0.mk (H.out.new hg_ h1_ h2_); clear H; have H := n0_; clear n0_; clear h1_ h2_ hg_; have q0 := (H.out.b.cell (World.block_lt_of_cell? w _ Q0.out)).trans Q0.out) | (go_at_call 16; with_reducible refine (rpub_c (c := x - 128) ⟨by omega, by omega⟩ _).mono ?_; rintro en wp ⟨rfl, hb_⟩; have n0_ := Aside0.mk (H.out.on hb_); clear H hb_; have H := n0_; clear n0_; have q0 := (H.out.b.cell (World.block_lt_of_cell? w _ Q0.out)).trans Q0.out) | ((with_reducible refine gate_dst (N := 24) rfl ?_); refine ev_build (zeroC) rfl (by go_simp; first | rfl | done) ?_; intro cx hcx_; have M := Aside0.mk (show ∀ W, IsMsg W cx _ from fun W => by rw [hcx_]; exact zero_is W); clear hcx_) | ((with_reducible refine gate_op (u := .store 30 (.tmp 2) (.tmp 24)) rfl ?_); refine ev_store rfl rfl rfl rfl H.out (i := 0) rfl (rfl) (M.out w) ?_; intro w2 h3_ h4_; have n0_ := Aside0.mk (h3_); clear H; have H := n0_; clear n0_; clear h3_ h4_))
  refine bodyPost_ret (results_ct rfl _ _ g 30 cx (0, 0) _ rfl (H.out.at 0 rfl) Try.underlying30 rfl (msg_info ((M.out w).size))) rfl (⟨cx, rfl, M.out _, H.out.b⟩)
set_option maxHeartbeats 16000000 in
set_option maxRecDepth 100000 in
theorem rparse_one (A : Option Addr) (c : Nat) (l : List Int) (w : World) (hr : Kd.C (Kd.int .u8) w A l.length l) (hb : isBytes l) (h0 : l.length = 1) (h1 : ¬ l.getD 0 0 < 128) (h2 : pubB (l.getD 0 0 - 128) = true) :
    Calls Try.prog 9 #[.slice A l.length c] w fun en w' => ∃ cx, en = .returned (.tuple #[.agg cx, .int .i64 2]) ∧ IsMsg w' cx zeroM ∧ Below w.heap.size w w' := by
  have HR := Aside0.mk hr
  clear hr
  have H := Aside0.mk (Held.start w)
  obtain ⟨x0, x1⟩ := isBytes_rd hb 0
  obtain ⟨y0, y1⟩ := isBytes_rd hb 1
  obtain ⟨ad, rfl, q0_⟩ := at_u8 HR.out 0 (by omega)
  rw [Addr.add_zero'] at q0_
  have Q0 := Aside0.mk q0_
  clear q0_
  generalize hx : l.getD 0 0 = x at *
  generalize hy : l.getD 1 0 = y at *
  clear hx hy
  have f1 : decide ((l.length : Int) < 1) = false := decide_eq_false (by omega)
  have f2 : decide ((l.length : Int) < 2) = true := decide_eq_true (by omega)
  have d1 : decide (x - 128 < 0) = false := decide_eq_false (by omega)
  have d2 : decide (x < 128) = false := decide_eq_false (by omega)
  have wx : IntKind.u8.wrap (x - 128) = x - 128 := by simp [IntKind.wrap, IntKind.bits, IntKind.signed]; omega
  have HBB := Aside0.mk hb
  clear hb
  go_enter Try.func9, Try.ntmps9
  go_wp2_with (first | ((with_reducible refine gate_dst (N := 2) rfl ?_); refine ev_alloc rfl rfl ?_; intro g w1 hg_ h1_ h2_; have n0_ := Aside0.mk (H.out.new hg_ h1_ h2_); clear H; have H := n0_; clear n0_; clear h1_ h2_ hg_; have q0 := (H.out.b.cell (World.block_lt_of_cell? w _ Q0.out)).trans Q0.out) | (go_at_call 16; with_reducible refine (rpub_c (c := x - 128) ⟨by omega, by omega⟩ _).mono ?_; rintro en wp ⟨rfl, hb_⟩; have n0_ := Aside0.mk (H.out.on hb_); clear H hb_; have H := n0_; clear n0_; have q0 := (H.out.b.cell (World.block_lt_of_cell? w _ Q0.out)).trans Q0.out) | ((with_reducible refine gate_dst (N := 28) rfl ?_); refine ev_build (zeroC) rfl (by go_simp; first | rfl | done) ?_; intro cx hcx_; have M := Aside0.mk (show ∀ W, IsMsg W cx _ from fun W => by rw [hcx_]; exact zero_is W); clear hcx_) | ((with_reducible refine gate_op (u := .store 30 (.tmp 2) (.tmp 28)) rfl ?_); refine ev_store rfl rfl rfl rfl H.out (i := 0) rfl (rfl) (M.out w) ?_; intro w2 h3_ h4_; have n0_ := Aside0.mk (h3_); clear H; have H := n0_; clear n0_; clear h3_ h4_))
  refine bodyPost_ret (results_ct rfl _ _ g 30 cx (0, 0) _ rfl (H.out.at 0 rfl) Try.underlying30 rfl (msg_info ((M.out w).size))) rfl (⟨cx, rfl, M.out _, H.out.b⟩)
set_option maxHeartbeats 16000000 in
set_option maxRecDepth 100000 in
theorem rparse_fail (A : Option Addr) (c : Nat) (l : List Int) (w : World) (hr : Kd.C (Kd.int .u8) w A l.length l) (hb : isBytes l) (h0 : 1 < l.length) (h1 : ¬ l.getD 0 0 < 128) (h2 : pubB (l.getD 0 0 - 128) = true) (h3 : faiB (l.getD 1 0) = false) :
    Calls Try.prog 9 #[.slice A l.length c] w fun en w' => ∃ cx, en = .returned (.tuple #[.agg cx, .int .i64 6]) ∧ IsMsg w' cx zeroM ∧ Below w.heap.size w w' := by
  have HR := Aside0.mk hr
  clear hr
  have H := Aside0.mk (Held.start w)
  obtain ⟨x0, x1⟩ := isBytes_rd hb 0
  obtain ⟨y0, y1⟩ := isBytes_rd hb 1
  obtain ⟨ad, rfl, q0_⟩ := at_u8 HR.out 0 (by omega)
  rw [Addr.add_zero'] at q0_
  have Q0 := Aside0.mk q0_
  clear q0_
  obtain ⟨ad_, e1_, q1_⟩ := at_u8 HR.out 1 (by omega)
  obtain rfl : ad = ad_ := Option.some.inj e1_
  clear e1_
  replace q1_ : w.cell? ⟨ad.block, ad.off + 1, none⟩ = some (.int .u8 (l.getD 1 0)) := q1_
  have Q1 := Aside0.mk q1_
  clear q1_
  generalize hx : l.getD 0 0 = x at *
  generalize hy : l.getD 1 0 = y at *
  clear hx hy
  have f1 : decide ((l.length : Int) < 1) = false := decide_eq_false (by omega)
  have f2 : decide ((l.length : Int) < 2) = false := decide_eq_false (by omega)
  have d1 : decide (x - 128 < 0) = false := decide_eq_false (by omega)
  have d2 : decide (x < 128) = false := decide_eq_false (by omega)
  have wx : IntKind.u8.wrap (x - 128) = x - 128 := by simp [IntKind.wrap, IntKind.bits, IntKind.signed]; omega
  have HBB := Aside0.mk hb
  clear hb
  go_enter Try.func9, Try.ntmps9
  go_wp2_with (first | ((with_reducible refine gate_dst (N := 2) rfl ?_); refine ev_alloc rfl rfl ?_; intro g w1 hg_ h1_ h2_; have n0_ := Aside0.mk (H.out.new hg_ h1_ h2_); clear H; have H := n0_; clear n0_; clear h1_ h2_ hg_; have q0 := (H.out.b.cell (World.block_lt_of_cell? w _ Q0.out)).trans Q0.out; have q1 := (H.out.b.cell (World.block_lt_of_cell? w _ Q1.out)).trans Q1.out) | (go_at_call 16; with_reducible refine (rpub_c (c := x - 128) ⟨by omega, by omega⟩ _).mono ?_; rintro en wp ⟨rfl, hb_⟩; have n0_ := Aside0.mk (H.out.on hb_); clear H hb_; have H := n0_; clear n0_; have q0 := (H.out.b.cell (World.block_lt_of_cell? w _ Q0.out)).trans Q0.out; have q1 := (H.out.b.cell (World.block_lt_of_cell? w _ Q1.out)).trans Q1.out) | (go_at_call 17; with_reducible refine (rfai_c (c := y) ⟨by omega, by omega⟩ _).mono ?_; rintro en wf ⟨rfl, hb_⟩; have n0_ := Aside0.mk (H.out.on hb_); clear H hb_; have H := n0_; clear n0_; have q0 := (H.out.b.cell (World.block_lt_of_cell? w _ Q0.out)).trans Q0.out; have q1 := (H.out.b.cell (World.block_lt_of_cell? w _ Q1.out)).trans Q1.out) | ((with_reducible refine gate_dst (N := 35) rfl ?_); refine ev_build (zeroC) rfl (by go_simp; first | rfl | done) ?_; intro cx hcx_; have M := Aside0.mk (show ∀ W, IsMsg W cx _ from fun W => by rw [hcx_]; exact zero_is W); clear hcx_) | ((with_reducible refine gate_op (u := .store 30 (.tmp 2) (.tmp 35)) rfl ?_); refine ev_store rfl rfl rfl rfl H.out (i := 0) rfl (rfl) (M.out w) ?_; intro w2 h3_ h4_; have n0_ := Aside0.mk (h3_); clear H; have H := n0_; clear n0_; clear h3_ h4_))
  refine bodyPost_ret (results_ct rfl _ _ g 30 cx (0, 0) _ rfl (H.out.at 0 rfl) Try.underlying30 rfl (msg_info ((M.out w).size))) rfl (⟨cx, rfl, M.out _, H.out.b⟩)
set_option maxHeartbeats 16000000 in
set_option maxRecDepth 100000 in
theorem rparse_long (A : Option Addr) (c : Nat) (l : List Int) (w : World) (hr : Kd.C (Kd.int .u8) w A l.length l) (hb : isBytes l) (h0 : 2 < l.length) (h1 : ¬ l.getD 0 0 < 128) (h2 : pubB (l.getD 0 0 - 128) = true) (h3 : faiB (l.getD 1 0) = true) :
    Calls Try.prog 9 #[.slice A l.length c] w fun en w' => ∃ cx, en = .returned (.tuple #[.agg cx, .int .i64 3]) ∧ IsMsg w' cx zeroM ∧ Below w.heap.size w w' := by
  have HR := Aside0.mk hr
  clear hr
  have H := Aside0.mk (Held.start w)
  obtain ⟨x0, x1⟩ := isBytes_rd hb 0
  obtain ⟨y0, y1⟩ := isBytes_rd hb 1
  obtain ⟨ad, rfl, q0_⟩ := at_u8 HR.out 0 (by omega)
  rw [Addr.add_zero'] at q0_
  have Q0 := Aside0.mk q0_
  clear q0_
  obtain ⟨ad_, e1_, q1_⟩ := at_u8 HR.out 1 (by omega)
  obtain rfl : ad = ad_ := Option.some.inj e1_
  clear e1_
  replace q1_ : w.cell? ⟨ad.block, ad.off + 1, none⟩ = some (.int .u8 (l.getD 1 0)) := q1_
  have Q1 := Aside0.mk q1_
  clear q1_
  generalize hx : l.getD 0 0 = x at *
  generalize hy : l.getD 1 0 = y at *
  clear hx hy
  have f1 : decide ((l.length : Int) < 1) = false := decide_eq_false (by omega)
  have f2 : decide ((l.length : Int) < 2) = false := decide_eq_false (by omega)
  have d1 : decide (x - 128 < 0) = false := decide_eq_false (by omega)
  have d2 : decide (x < 128) = false := decide_eq_false (by omega)
  have wx : IntKind.u8.wrap (x - 128) = x - 128 := by simp [IntKind.wrap, IntKind.bits, IntKind.signed]; omega
  have e2 : decide ((l.length : Int) > 2) = true := decide_eq_true (by omega)
  have e2_ : decide ((2 : Int) < (l.length : Int)) = true := decide_eq_true (by omega)
  have HBB := Aside0.mk hb
  clear hb
  go_enter Try.func9, Try.ntmps9
  go_wp2_with (first | ((with_reducible refine gate_dst (N := 2) rfl ?_); refine ev_alloc rfl rfl ?_; intro g w1 hg_ h1_ h2_; have n0_ := Aside0.mk (H.out.new hg_ h1_ h2_); clear H; have H := n0_; clear n0_; clear h1_ h2_ hg_; have q0 := (H.out.b.cell (World.block_lt_of_cell? w _ Q0.out)).trans Q0.out; have q1 := (H.out.b.cell (World.block_lt_of_cell? w _ Q1.out)).trans Q1.out) | (go_at_call 16; with_reducible refine (rpub_c (c := x - 128) ⟨by omega, by omega⟩ _).mono ?_; rintro en wp ⟨rfl, hb_⟩; have n0_ := Aside0.mk (H.out.on hb_); clear H hb_; have H := n0_; clear n0_; have q0 := (H.out.b.cell (World.block_lt_of_cell? w _ Q0.out)).trans Q0.out; have q1 := (H.out.b.cell (World.block_lt_of_cell? w _ Q1.out)).trans Q1.out) | (go_at_call 17; with_reducible refine (rfai_c (c := y) ⟨by omega, by omega⟩ _).mono ?_; rintro en wf ⟨rfl, hb_⟩; have n0_ := Aside0.mk (H.out.on hb_); clear H hb_; have H := n0_; clear n0_; have q0 := (H.out.b.cell (World.block_lt_of_cell? w _ Q0.out)).trans Q0.out; have q1 := (H.out.b.cell (World.block_lt_of_cell? w _ Q1.out)).trans Q1.out) | ((with_reducible refine gate_dst (N := 39) rfl ?_); refine ev_build (zeroC) rfl (by go_simp; first | rfl | done) ?_; intro cx hcx_; have M := Aside0.mk (show ∀ W, IsMsg W cx _ from fun W => by rw [hcx_]; exact zero_is W); clear hcx_) | ((with_reducible refine gate_op (u := .store 30 (.tmp 2) (.tmp 39)) rfl ?_); refine ev_store rfl rfl rfl rfl H.out (i := 0) rfl (rfl) (M.out w) ?_; intro w2 h3_ h4_; have n0_ := Aside0.mk (h3_); clear H; have H := n0_; clear n0_; clear h3_ h4_))
  refine bodyPost_ret (results_ct rfl _ _ g 30 cx (0, 0) _ rfl (H.out.at 0 rfl) Try.underlying30 rfl (msg_info ((M.out w).size))) rfl (⟨cx, rfl, M.out _, H.out.b⟩)
set_option maxHeartbeats 16000000 in
set_option maxRecDepth 100000 in
theorem rparse_ok (A : Option Addr) (c : Nat) (l : List Int) (w : World) (hr : Kd.C (Kd.int .u8) w A l.length l) (hb : isBytes l) (h0 : l.length = 2) (h1 : ¬ l.getD 0 0 < 128) (h2 : pubB (l.getD 0 0 - 128) = true) (h3 : faiB (l.getD 1 0) = true) :
    Calls Try.prog 9 #[.slice A l.length c] w fun en w' => ∃ cx, en = .returned (.tuple #[.agg cx, .int .i64 0]) ∧ IsMsg w' cx (msg2 (l.getD 0 0 - 128) (l.getD 1 0)) ∧ Below w.heap.size w w' := by
  have HR := Aside0.mk hr
  clear hr
  have H := Aside0.mk (Held.start w)
  obtain ⟨x0, x1⟩ := isBytes_rd hb 0
  obtain ⟨y0, y1⟩ := isBytes_rd hb 1
  obtain ⟨ad, rfl, q0_⟩ := at_u8 HR.out 0 (by omega)
  rw [Addr.add_zero'] at q0_
  have Q0 := Aside0.mk q0_
  clear q0_
  obtain ⟨ad_, e1_, q1_⟩ := at_u8 HR.out 1 (by omega)
  obtain rfl : ad = ad_ := Option.some.inj e1_
  clear e1_
  replace q1_ : w.cell? ⟨ad.block, ad.off + 1, none⟩ = some (.int .u8 (l.getD 1 0)) := q1_
  have Q1 := Aside0.mk q1_
  clear q1_
  generalize hx : l.getD 0 0 = x at *
  generalize hy : l.getD 1 0 = y at *
  clear hx hy
  have e2 : decide ((l.length : Int) > 2) = false := decide_eq_false (by omega)
  have e2_ : decide ((2 : Int) < (l.length : Int)) = false := decide_eq_false (by omega)
  have f1 : decide ((l.length : Int) < 1) = false := decide_eq_false (by omega)
  have f2 : decide ((l.length : Int) < 2) = false := decide_eq_false (by omega)
  have d1 : decide (x - 128 < 0) = false := decide_eq_false (by omega)
  have d2 : decide (x < 128) = false := decide_eq_false (by omega)
  have wx : IntKind.u8.wrap (x - 128) = x - 128 := by simp [IntKind.wrap, IntKind.bits, IntKind.signed]; omega
  have h00 : 1 < l.length := by omega
  clear h0
  have HBB := Aside0.mk hb
  clear hb
  go_enter Try.func9, Try.ntmps9
  go_wp2_with (first | ((with_reducible refine gate_dst (N := 2) rfl ?_); refine ev_alloc rfl rfl ?_; intro g w1 hg_ h1_ h2_; have n0_ := Aside0.mk (H.out.new hg_ h1_ h2_); clear H; have H := n0_; clear n0_; clear h1_ h2_ hg_; have q0 := (H.out.b.cell (World.block_lt_of_cell? w _ Q0.out)).trans Q0.out; have q1 := (H.out.b.cell (World.block_lt_of_cell? w _ Q1.out)).trans Q1.out) | (go_at_call 16; with_reducible refine (rpub_c (c := x - 128) ⟨by omega, by omega⟩ _).mono ?_; rintro en wp ⟨rfl, hb_⟩; have n0_ := Aside0.mk (H.out.on hb_); clear H hb_; have H := n0_; clear n0_; have q0 := (H.out.b.cell (World.block_lt_of_cell? w _ Q0.out)).trans Q0.out; have q1 := (H.out.b.cell (World.block_lt_of_cell? w _ Q1.out)).trans Q1.out) | (go_at_call 17; with_reducible refine (rfai_c (c := y) ⟨by omega, by omega⟩ _).mono ?_; rintro en wf ⟨rfl, hb_⟩; have n0_ := Aside0.mk (H.out.on hb_); clear H hb_; have H := n0_; clear n0_; have q0 := (H.out.b.cell (World.block_lt_of_cell? w _ Q0.out)).trans Q0.out; have q1 := (H.out.b.cell (World.block_lt_of_cell? w _ Q1.out)).trans Q1.out) | ((with_reducible refine gate_dst (N := 45) rfl ?_); refine ev_build (msg2C (x - 128) y) rfl (by go_simp; first | rfl | done) ?_; intro cx hcx_; have M := Aside0.mk (show ∀ W, IsMsg W cx _ from fun W => by rw [hcx_]; exact msg2_is (c := x - 128) (f := y) ⟨by omega, by omega⟩ ⟨by omega, by omega⟩ W); clear hcx_) | ((with_reducible refine gate_op (u := .store 30 (.tmp 2) (.tmp 45)) rfl ?_); refine ev_store rfl rfl rfl rfl H.out (i := 0) rfl (rfl) (M.out w) ?_; intro w2 h3_ h4_; have n0_ := Aside0.mk (h3_); clear H; have H := n0_; clear n0_; clear h3_ h4_))
  refine bodyPost_ret (results_ct rfl _ _ g 30 cx (0, 0) _ rfl (H.out.at 0 rfl) Try.underlying30 rfl (msg_info ((M.out w).size))) rfl (⟨cx, rfl, M.out _, H.out.b⟩)
theorem rparse_any (A : Option Addr) (c : Nat) (l : List Int) (w : World) (hr : Kd.C (Kd.int .u8) w A l.length l) (hb : isBytes l) :
    Calls Try.prog 9 #[.slice A l.length c] w fun en w' => ∃ cx, en = .returned (.tuple #[.agg cx, .int .i64 (parse l).2]) ∧ IsMsg w' cx (parse l).1 ∧ Below w.heap.size w w' :=
  parse_split (P := fun r => Calls Try.prog 9 #[.slice A l.length c] w fun en w' => ∃ cx, en = .returned (.tuple #[.agg cx, .int .i64 r.2]) ∧ IsMsg w' cx r.1 ∧ Below w.heap.size w w') l (rparse_nil A c l w hr hb) (rparse_low A c l w hr hb) (rparse_code A c l w hr hb) (rparse_one A c l w hr hb) (rparse_fail A c l w hr hb) (rparse_long A c l w hr hb) (rparse_ok A c l w hr hb)
set_option maxHeartbeats 16000000 in
set_option maxRecDepth 100000 in
theorem of_no (c f : Int) (hc : 0 ≤ c ∧ c < 256) (hf : 0 ≤ f ∧ f < 256) (w : World) (hr : rightB c f = false) :
    Calls Try.prog 14 #[.int .u8 c, .int .u8 f] w fun en w' => ∃ cx, en = .returned (.tuple #[.agg cx, .int .i64 1]) ∧ IsMsg w' cx zeroM ∧ Below w.heap.size w w' := by
  have H := Aside0.mk (Held.start w)
  have HC := Aside0.mk hc
  have HF := Aside0.mk hf
  clear hc hf
  go_enter Try.func14, Try.ntmps14
  go_wp2_with (first | ((with_reducible refine gate_dst (N := 4) rfl ?_); refine ev_alloc rfl rfl ?_; intro g w1 hg_ h1_ h2_; have n0_ := Aside0.mk (H.out.new hg_ h1_ h2_); clear H; have H := n0_; clear n0_; clear h1_ h2_ hg_) | (go_at_call 23; with_reducible refine (right_c (c := c) (f := f) HC.out HF.out _).mono ?_; rintro en wr ⟨rfl, hb_⟩; have K0 := Aside0.mk (blk_below (blk_new w1 (Obj.cells #[Value.int IntKind.u8 (c), Value.int IntKind.u8 (f)] 45)) hb_); have n0_ := Aside0.mk ((H.out.on (below_alloc (Below.refl _ _) (Obj.cells #[Value.int IntKind.u8 (c), Value.int IntKind.u8 (f)] 45))).on hb_); clear H hb_; have H := n0_; clear n0_; have k0 := (blk_cell K0.out 0).trans rfl; have k1 := (blk_cell K0.out 1).trans rfl) | ((with_reducible refine gate_dst (N := 13) rfl ?_); refine ev_build (zeroC) rfl (by go_simp; first | rfl | done) ?_; intro cx hcx_; have M := Aside0.mk (show ∀ W, IsMsg W cx _ from fun W => by rw [hcx_]; exact zero_is W); clear hcx_) | ((with_reducible refine gate_op (u := .store 30 (.tmp 4) (.tmp 13)) rfl ?_); refine ev_store rfl rfl rfl rfl H.out (i := 0) rfl (rfl) (M.out w) ?_; intro w2 h3_ h4_; have n0_ := Aside0.mk (h3_); clear H; have H := n0_; clear n0_; clear h3_ h4_))
  refine bodyPost_ret (results_ct rfl _ _ g 30 cx (0, 0) _ rfl (H.out.at 0 rfl) Try.underlying30 rfl (msg_info ((M.out w).size))) rfl (⟨cx, rfl, M.out _, H.out.b⟩)
set_option maxHeartbeats 16000000 in
set_option maxRecDepth 100000 in
theorem of_yes (c f : Int) (hc : 0 ≤ c ∧ c < 256) (hf : 0 ≤ f ∧ f < 256) (w : World) (hr : rightB c f = true) :
    Calls Try.prog 14 #[.int .u8 c, .int .u8 f] w fun en w' => ∃ cx, en = .returned (.tuple #[.agg cx, .int .i64 0]) ∧ IsMsg w' cx (msg2 c f) ∧ Below w.heap.size w w' := by
  have H := Aside0.mk (Held.start w)
  have HC := Aside0.mk hc
  have HF := Aside0.mk hf
  clear hc hf
  go_enter Try.func14, Try.ntmps14
  go_wp2_with (first | ((with_reducible refine gate_dst (N := 4) rfl ?_); refine ev_alloc rfl rfl ?_; intro g w1 hg_ h1_ h2_; have n0_ := Aside0.mk (H.out.new hg_ h1_ h2_); clear H; have H := n0_; clear n0_; clear h1_ h2_ hg_) | (go_at_call 23; with_reducible refine (right_c (c := c) (f := f) HC.out HF.out _).mono ?_; rintro en wr ⟨rfl, hb_⟩; have K0 := Aside0.mk (blk_below (blk_new w1 (Obj.cells #[Value.int IntKind.u8 (c), Value.int IntKind.u8 (f)] 45)) hb_); have n0_ := Aside0.mk ((H.out.on (below_alloc (Below.refl _ _) (Obj.cells #[Value.int IntKind.u8 (c), Value.int IntKind.u8 (f)] 45))).on hb_); clear H hb_; have H := n0_; clear n0_; have k0 := (blk_cell K0.out 0).trans rfl; have k1 := (blk_cell K0.out 1).trans rfl) | (go_at_call 20; with_reducible refine (of_any c f HC.out HF.out _).mono ?_; rintro en wo ⟨rfl, hb_⟩; have n0_ := Aside0.mk (H.out.on hb_); clear H hb_; have H := n0_; clear n0_) | ((with_reducible refine gate_op (u := .store 30 (.tmp 4) (.tmp 15)) rfl ?_); refine ev_store rfl rfl rfl rfl H.out (i := 0) rfl (rfl) (msg2_is HC.out HF.out w) ?_; intro w2 h3_ h4_; have n0_ := Aside0.mk (h3_); clear H; have H := n0_; clear n0_; clear h3_ h4_))
  refine bodyPost_ret (results_ct rfl _ _ g 30 _ (0, 0) _ rfl (H.out.at 0 rfl) Try.underlying30 rfl (msg_info (rfl))) rfl (⟨_, rfl, msg2_is HC.out HF.out _, H.out.b⟩)
def ofM (c f : Int) : Msg × Int := if rightB c f = true then (msg2 c f, 0) else (zeroM, 1)
theorem ofc_any (c f : Int) (hc : 0 ≤ c ∧ c < 256) (hf : 0 ≤ f ∧ f < 256) (w : World) :
    Calls Try.prog 14 #[.int .u8 c, .int .u8 f] w fun en w' => ∃ cx, en = .returned (.tuple #[.agg cx, .int .i64 (ofM c f).2]) ∧ IsMsg w' cx (ofM c f).1 ∧ Below w.heap.size w w' := by
  unfold ofM
  cases hr : rightB c f with
  | false => exact of_no c f hc hf w hr
  | true => exact of_yes c f hc hf w hr
def rwrite.T2 : Bool × List (List Nat × List Nat) := (true, [([], []), ([0], [0]), ([1], [1]), ([2, 1], [2]), ([3], [3]), ([3], [3]), ([5, 3, 3], [3, 5]), ([4, 6, 6, 3], [3, 4, 6]), ([7, 3], [3, 7]), ([3, 8], [3, 8])])
def rwrite.B2 : List Nat := [0, 1, 3, 7, 15, 15, 47, 127, 255, 511]
theorem rwrite.tab2 : rtab .any (opsOf Try.f12 2) = rwrite.T2 := by kernel_rfl
theorem rwrite.bits2 : waitsOk rwrite.T2.2 rwrite.B2 = true := by kernel_rfl
set_option maxHeartbeats 16000000 in
set_option maxRecDepth 100000 in
theorem write_no {cx : Array Value} {m : Msg} {w : World} (hm : IsMsg w cx m) (hr : rightB m.code m.fail = false) :
    Calls Try.prog 12 #[.agg cx] w fun en w' => ∃ A c, en = .returned (.tuple #[.slice A (([] : List Int)).length c, .int .i64 1]) ∧ (([] : List Int)).length ≤ c ∧ Kd.C (Kd.int .u8) w' A (([] : List Int)).length (([] : List Int)) ∧ Below w.heap.size w w' := by
  have M := Aside0.mk hm
  have G := goodM_num hm.good
  have HC := Aside0.mk G.1.1
  have HF := Aside0.mk G.1.2.1
  have hsz := hm.size
  have hix := msg_info hsz
  have H := Aside0.mk (Held.box w cx)
  have kc := bx_code (H.out.at 0 rfl) hm
  have kf := bx_fail (H.out.at 0 rfl) hm
  have b0 := G.1.1.1
  have b1 := G.1.1.2
  have b2 := G.1.2.1.1
  have b3 := G.1.2.1.2
  clear hm G
  go_enter Try.func12, Try.ntmps12
  go_upto_region 2 with (fail)
  obtain ⟨wp, hwp⟩ : ∃ z, z = (w.alloc (.cells cx 30 (0, 0))).alloc (Obj.cells #[Value.int IntKind.u8 (m.code), Value.int IntKind.u8 (m.fail)] 45) := ⟨_, rfl⟩
  have hb_ : Below (w.alloc (.cells cx 30 (0, 0))).heap.size (w.alloc (.cells cx 30 (0, 0))) wp := by rw [hwp]; exact below_alloc (Below.refl _ _) _
  have K0 : wp.heap[w.heap.size + 1]? = some (Obj.cells #[Value.int IntKind.u8 m.code, Value.int IntKind.u8 m.fail] 45 (0, 0)) := by rw [hwp]; have := blk_new (w.alloc (.cells cx 30 (0, 0))) (Obj.cells #[Value.int IntKind.u8 (m.code), Value.int IntKind.u8 (m.fail)] 45); simpa using this
  rw [← hwp]
  have n0_ := Aside0.mk (H.out.on hb_); clear H; have H := n0_; clear n0_; clear hb_ hwp
  have KK := Aside0.mk K0
  have k0 := (blk_cell K0 0).trans rfl
  have k1 := (blk_cell K0 1).trans rfl
  clear K0 kc kf
  refine start_ (n := 10) (S := fun w' => w'.cell? ⟨w.heap.size + 1, 0, none⟩ = some (.int .u8 m.code) ∧ w'.cell? ⟨w.heap.size + 1, 1, none⟩ = some (.int .u8 m.fail) ∧ Aside0 (Held w [(w.heap.size, cx)] w')) (ds := []) (bm 10 0) (by as_aux_lemma => kernel_rfl) rfl (by as_aux_lemma => kernel_rfl) ⟨k0, k1, (Aside0.mk H.out.drew)⟩ (fun hHeld => ?_)
  refine with_tabW rwrite.tab2 rwrite.bits2 (fun HT_ HW_ => ?_)
  refine take_ (i := 0) (N := some 10) (v := ?_) (a' := ?_) (bm 10 1) rfl rfl (take_ofW HT_.out HW_.out (by as_aux_lemma => kernel_rfl)) (fun _ _ _ h => h) (Or.inl ⟨by rfl, ?_⟩) hHeld ?_ ?_
  rotate_left
  · rintro w' ⟨s0, s1, s2⟩
    go_simp
    with_reducible rfl
  rotate_left
  · simp only [Act.put, List.setIfInBounds_toArray, List.set_cons_zero, List.set_cons_succ, i64_w, i32_w]
    rfl
  refine one_ (i := 1) (N := some 11) (bm 10 3) rfl rfl (one_of HT_.out (by as_aux_lemma => kernel_rfl)) (by as_aux_lemma => decide) (fun K hK => ?_)
  refine goes_ Try.func23 (by as_aux_lemma => kernel_rfl) rfl #[.agg #[.int .u8 m.code, .int .u8 m.fail]] (by rfl) rfl rfl (by simp only [List.map_toArray, List.map_cons, List.map_nil]; rfl) ?_
  with_reducible refine (right_c HC.out HF.out _).mono ?_
  rintro en w5 ⟨rfl, hb_⟩
  have KR := Aside0.mk (blk_below (blk_drew KK.out) hb_)
  have n0_ := Aside0.mk (hHeld.2.2.out.on hb_)
  clear H
  have H := n0_
  clear n0_ hb_
  refine ⟨_, rfl, ?_⟩
  refine hK.out _ _ ⟨((blk_cell KR.out 0).trans rfl), ((blk_cell KR.out 1).trans rfl), H⟩ (fun hHeld => ?_)
  clear hK K
  refine norm_ (a' := ?_) ?_ ?_
  rotate_left
  · show Act.put _ (some 11) _ = _
    simp only [Act.put, List.setIfInBounds_toArray, List.set_cons_zero, List.set_cons_succ, i64_w, i32_w]
    rfl
  refine pure_ (i := 2) (N := some 12) (v := ?_) (a' := ?_) (bm 10 7) rfl rfl (any_of HT_.out (by as_aux_lemma => kernel_rfl)) (fun _ _ _ h => h) (Or.inl ⟨by rfl, ?_⟩) ?_ ?_
  rotate_left
  · intro w'
    go_simp
    with_reducible rfl
  rotate_left
  · simp only [Act.put, List.setIfInBounds_toArray, List.set_cons_zero, List.set_cons_succ, i64_w, i32_w]
    rfl
  refine pure_ (i := 3) (N := some 13) (v := ?_) (a' := ?_) (bm 10 15) rfl rfl (any_of HT_.out (by as_aux_lemma => kernel_rfl)) (fun _ _ _ h => h) (Or.inl ⟨by rfl, ?_⟩) ?_ ?_
  rotate_left
  · intro w'
    go_simp
    with_reducible rfl
  rotate_left
  · simp only [Act.put, List.setIfInBounds_toArray, List.set_cons_zero, List.set_cons_succ, i64_w, i32_w]
    rfl
  refine pure_ (i := 4) (N := some 14) (v := undef) (a' := ?_) (bm 10 31) rfl rfl (any_of HT_.out (by as_aux_lemma => kernel_rfl)) (fun _ _ _ h => h) (Or.inr ⟨by rfl, rfl⟩) ?_ ?_
  rotate_left
  · simp only [Act.put, List.setIfInBounds_toArray, List.set_cons_zero, List.set_cons_succ, i64_w, i32_w]
    rfl
  refine pure_ (i := 5) (N := some 15) (v := undef) (a' := ?_) (bm 10 63) rfl rfl (any_of HT_.out (by as_aux_lemma => kernel_rfl)) (fun _ _ _ h => h) (Or.inr ⟨by rfl, rfl⟩) ?_ ?_
  rotate_left
  · simp only [Act.put, List.setIfInBounds_toArray, List.set_cons_zero, List.set_cons_succ, i64_w, i32_w]
    rfl
  refine pure_ (i := 6) (N := some 16) (v := undef) (a' := ?_) (bm 10 127) rfl rfl (any_of HT_.out (by as_aux_lemma => kernel_rfl)) (fun _ _ _ h => h) (Or.inr ⟨by rfl, rfl⟩) ?_ ?_
  rotate_left
  · simp only [Act.put, List.setIfInBounds_toArray, List.set_cons_zero, List.set_cons_succ, i64_w, i32_w]
    rfl
  refine pure_ (i := 7) (N := some 17) (v := undef) (a' := ?_) (bm 10 255) rfl rfl (any_of HT_.out (by as_aux_lemma => kernel_rfl)) (fun _ _ _ h => h) (Or.inr ⟨by rfl, rfl⟩) ?_ ?_
  rotate_left
  · simp only [Act.put, List.setIfInBounds_toArray, List.set_cons_zero, List.set_cons_succ, i64_w, i32_w]
    rfl
  refine pure_ (i := 8) (N := some 18) (v := undef) (a' := ?_) (bm 10 511) rfl rfl (any_of HT_.out (by as_aux_lemma => kernel_rfl)) (fun _ _ _ h => h) (Or.inr ⟨by rfl, rfl⟩) ?_ ?_
  rotate_left
  · simp only [Act.put, List.setIfInBounds_toArray, List.set_cons_zero, List.set_cons_succ, i64_w, i32_w]
    rfl
  refine pure_ (i := 9) (N := some 19) (v := ?_) (a' := ?_) (bm 10 1023) rfl rfl (any_of HT_.out (by as_aux_lemma => kernel_rfl)) (fun _ _ _ h => h) (Or.inl ⟨by rfl, ?_⟩) ?_ ?_
  rotate_left
  · intro w'
    go_simp
    with_reducible rfl
  rotate_left
  · simp only [Act.put, List.setIfInBounds_toArray, List.set_cons_zero, List.set_cons_succ, i64_w, i32_w]
    rfl
  refine done_ (done_of HT_.out (by as_aux_lemma => kernel_rfl)) ?_
  
  go_wp2
  go_ret2
  exact ⟨none, 0, rfl, Nat.le_refl _, Kd.C_nil _ _, H.out.b⟩
set_option maxHeartbeats 16000000 in
set_option maxRecDepth 100000 in
theorem write_not {cx : Array Value} {m : Msg} {w : World} (hm : IsMsg w cx m) (hr : rightB m.code m.fail = true) (hs : sameB m (msg2 m.code m.fail) = false) :
    Calls Try.prog 12 #[.agg cx] w fun en w' => ∃ A c, en = .returned (.tuple #[.slice A (([] : List Int)).length c, .int .i64 1]) ∧ (([] : List Int)).length ≤ c ∧ Kd.C (Kd.int .u8) w' A (([] : List Int)).length (([] : List Int)) ∧ Below w.heap.size w w' := by
  have M := Aside0.mk hm
  have G := goodM_num hm.good
  have HC := Aside0.mk G.1.1
  have HF := Aside0.mk G.1.2.1
  have hsz := hm.size
  have hix := msg_info hsz
  have H := Aside0.mk (Held.box w cx)
  have kc := bx_code (H.out.at 0 rfl) hm
  have kf := bx_fail (H.out.at 0 rfl) hm
  have b0 := G.1.1.1
  have b1 := G.1.1.2
  have b2 := G.1.2.1.1
  have b3 := G.1.2.1.2
  clear hm G
  go_enter Try.func12, Try.ntmps12
  go_upto_region 2 with (fail)
  obtain ⟨wp, hwp⟩ : ∃ z, z = (w.alloc (.cells cx 30 (0, 0))).alloc (Obj.cells #[Value.int IntKind.u8 (m.code), Value.int IntKind.u8 (m.fail)] 45) := ⟨_, rfl⟩
  have hb_ : Below (w.alloc (.cells cx 30 (0, 0))).heap.size (w.alloc (.cells cx 30 (0, 0))) wp := by rw [hwp]; exact below_alloc (Below.refl _ _) _
  have K0 : wp.heap[w.heap.size + 1]? = some (Obj.cells #[Value.int IntKind.u8 m.code, Value.int IntKind.u8 m.fail] 45 (0, 0)) := by rw [hwp]; have := blk_new (w.alloc (.cells cx 30 (0, 0))) (Obj.cells #[Value.int IntKind.u8 (m.code), Value.int IntKind.u8 (m.fail)] 45); simpa using this
  rw [← hwp]
  have n0_ := Aside0.mk (H.out.on hb_); clear H; have H := n0_; clear n0_; clear hb_ hwp
  have KK := Aside0.mk K0
  have k0 := (blk_cell K0 0).trans rfl
  have k1 := (blk_cell K0 1).trans rfl
  clear K0 kc kf
  refine start_ (n := 10) (S := fun w' => w'.cell? ⟨w.heap.size + 1, 0, none⟩ = some (.int .u8 m.code) ∧ w'.cell? ⟨w.heap.size + 1, 1, none⟩ = some (.int .u8 m.fail) ∧ Aside0 (Held w [(w.heap.size, cx)] w')) (ds := []) (bm 10 0) (by as_aux_lemma => kernel_rfl) rfl (by as_aux_lemma => kernel_rfl) ⟨k0, k1, (Aside0.mk H.out.drew)⟩ (fun hHeld => ?_)
  refine with_tabW rwrite.tab2 rwrite.bits2 (fun HT_ HW_ => ?_)
  refine take_ (i := 0) (N := some 10) (v := ?_) (a' := ?_) (bm 10 1) rfl rfl (take_ofW HT_.out HW_.out (by as_aux_lemma => kernel_rfl)) (fun _ _ _ h => h) (Or.inl ⟨by rfl, ?_⟩) hHeld ?_ ?_
  rotate_left
  · rintro w' ⟨s0, s1, s2⟩
    go_simp
    with_reducible rfl
  rotate_left
  · simp only [Act.put, List.setIfInBounds_toArray, List.set_cons_zero, List.set_cons_succ, i64_w, i32_w]
    rfl
  refine one_ (i := 1) (N := some 11) (bm 10 3) rfl rfl (one_of HT_.out (by as_aux_lemma => kernel_rfl)) (by as_aux_lemma => decide) (fun K hK => ?_)
  refine goes_ Try.func23 (by as_aux_lemma => kernel_rfl) rfl #[.agg #[.int .u8 m.code, .int .u8 m.fail]] (by rfl) rfl rfl (by simp only [List.map_toArray, List.map_cons, List.map_nil]; rfl) ?_
  with_reducible refine (right_c HC.out HF.out _).mono ?_
  rintro en w5 ⟨rfl, hb_⟩
  have KR := Aside0.mk (blk_below (blk_drew KK.out) hb_)
  have n0_ := Aside0.mk (hHeld.2.2.out.on hb_)
  clear H
  have H := n0_
  clear n0_ hb_
  refine ⟨_, rfl, ?_⟩
  refine hK.out _ _ ⟨((blk_cell KR.out 0).trans rfl), ((blk_cell KR.out 1).trans rfl), H⟩ (fun hHeld => ?_)
  clear hK K
  refine norm_ (a' := ?_) ?_ ?_
  rotate_left
  · show Act.put _ (some 11) _ = _
    simp only [Act.put, List.setIfInBounds_toArray, List.set_cons_zero, List.set_cons_succ, i64_w, i32_w]
    rfl
  refine pure_ (i := 2) (N := some 12) (v := ?_) (a' := ?_) (bm 10 7) rfl rfl (any_of HT_.out (by as_aux_lemma => kernel_rfl)) (fun _ _ _ h => h) (Or.inl ⟨by rfl, ?_⟩) ?_ ?_
  rotate_left
  · intro w'
    go_simp
    with_reducible rfl
  rotate_left
  · simp only [Act.put, List.setIfInBounds_toArray, List.set_cons_zero, List.set_cons_succ, i64_w, i32_w]
    rfl
  refine pure_ (i := 3) (N := some 13) (v := ?_) (a' := ?_) (bm 10 15) rfl rfl (any_of HT_.out (by as_aux_lemma => kernel_rfl)) (fun _ _ _ h => h) (Or.inl ⟨by rfl, ?_⟩) ?_ ?_
  rotate_left
  · intro w'
    go_simp
    with_reducible rfl
  rotate_left
  · simp only [Act.put, List.setIfInBounds_toArray, List.set_cons_zero, List.set_cons_succ, i64_w, i32_w]
    rfl
  refine take_ (i := 4) (N := some 14) (v := ?_) (a' := ?_) (bm 10 31) rfl rfl (take_ofW HT_.out HW_.out (by as_aux_lemma => kernel_rfl)) (fun _ _ _ h => h) (Or.inl ⟨by rfl, ?_⟩) hHeld ?_ ?_
  rotate_left
  · rintro w' ⟨s0, s1, s2⟩
    refine exec_load_row 30 (.tmp 1) ?ha_4 w.heap.size ?hb_4 30 cx (0, 0) _ (s2.out.at 0 rfl) Try.underlying30 ?hc_4 hix
    case ha_4 => rfl
    case hb_4 => rfl
    exact rfl
  rotate_left
  · simp only [Act.put, List.setIfInBounds_toArray, List.set_cons_zero, List.set_cons_succ, i64_w, i32_w]
    rfl
  refine take_ (i := 5) (N := some 15) (v := ?_) (a' := ?_) (bm 10 63) rfl rfl (take_ofW HT_.out HW_.out (by as_aux_lemma => kernel_rfl)) (fun _ _ _ h => h) (Or.inl ⟨by rfl, ?_⟩) hHeld ?_ ?_
  rotate_left
  · rintro w' ⟨s0, s1, s2⟩
    go_simp
    with_reducible rfl
  rotate_left
  · simp only [Act.put, List.setIfInBounds_toArray, List.set_cons_zero, List.set_cons_succ, i64_w, i32_w]
    rfl
  refine one_ (i := 6) (N := some 16) (bm 10 127) rfl rfl (one_of HT_.out (by as_aux_lemma => kernel_rfl)) (by as_aux_lemma => decide) (fun K hK => ?_)
  refine goes_ Try.func20 (by as_aux_lemma => kernel_rfl) rfl #[.agg #[.int .u8 m.code, .int .u8 m.fail]] (by rfl) rfl rfl (by simp only [List.map_toArray, List.map_cons, List.map_nil]; rfl) ?_
  with_reducible refine (of_any m.code m.fail HC.out HF.out _).mono ?_
  rintro en w6 ⟨rfl, hb_⟩
  have KO := Aside0.mk (blk_below KR.out hb_)
  have n0_ := Aside0.mk (hHeld.2.2.out.on hb_)
  clear H
  have H := n0_
  clear n0_ hb_
  refine ⟨_, rfl, ?_⟩
  refine hK.out _ _ ⟨((blk_cell KO.out 0).trans rfl), ((blk_cell KO.out 1).trans rfl), H⟩ (fun hHeld => ?_)
  clear hK K
  refine norm_ (a' := ?_) ?_ ?_
  rotate_left
  · show Act.put _ (some 16) _ = _
    simp only [Act.put, List.setIfInBounds_toArray, List.set_cons_zero, List.set_cons_succ, i64_w, i32_w]
    rfl
  refine one_ (i := 7) (N := some 17) (bm 10 255) rfl rfl (one_of HT_.out (by as_aux_lemma => kernel_rfl)) (by as_aux_lemma => decide) (fun K hK => ?_)
  refine goes_ Try.func24 (by as_aux_lemma => kernel_rfl) rfl #[.agg cx, .agg (msg2C m.code m.fail)] (by rfl) rfl rfl (by simp only [List.map_toArray, List.map_cons, List.map_nil]; rfl) ?_
  with_reducible refine (same_msg (M.out.on (hHeld.2.2.out.b)) (msg2_is HC.out HF.out _)).mono ?_
  rintro en w7 ⟨rfl, hb_⟩
  have KS := Aside0.mk (blk_below KO.out hb_)
  have n0_ := Aside0.mk (hHeld.2.2.out.on hb_)
  clear H
  have H := n0_
  clear n0_ hb_
  refine ⟨_, rfl, ?_⟩
  refine hK.out _ _ ⟨((blk_cell KS.out 0).trans rfl), ((blk_cell KS.out 1).trans rfl), H⟩ (fun hHeld => ?_)
  clear hK K
  refine norm_ (a' := ?_) ?_ ?_
  rotate_left
  · show Act.put _ (some 17) _ = _
    simp only [Act.put, List.setIfInBounds_toArray, List.set_cons_zero, List.set_cons_succ, i64_w, i32_w]
    rfl
  refine pure_ (i := 8) (N := some 18) (v := ?_) (a' := ?_) (bm 10 511) rfl rfl (any_of HT_.out (by as_aux_lemma => kernel_rfl)) (fun _ _ _ h => h) (Or.inl ⟨by rfl, ?_⟩) ?_ ?_
  rotate_left
  · intro w'
    go_simp
    with_reducible rfl
  rotate_left
  · simp only [Act.put, List.setIfInBounds_toArray, List.set_cons_zero, List.set_cons_succ, i64_w, i32_w]
    rfl
  refine pure_ (i := 9) (N := some 19) (v := ?_) (a' := ?_) (bm 10 1023) rfl rfl (any_of HT_.out (by as_aux_lemma => kernel_rfl)) (fun _ _ _ h => h) (Or.inl ⟨by rfl, ?_⟩) ?_ ?_
  rotate_left
  · intro w'
    go_simp
    with_reducible rfl
  rotate_left
  · simp only [Act.put, List.setIfInBounds_toArray, List.set_cons_zero, List.set_cons_succ, i64_w, i32_w]
    rfl
  refine done_ (done_of HT_.out (by as_aux_lemma => kernel_rfl)) ?_
  
  go_wp2
  go_ret2
  exact ⟨none, 0, rfl, Nat.le_refl _, Kd.C_nil _ _, H.out.b⟩
set_option maxHeartbeats 16000000 in
set_option maxRecDepth 100000 in
theorem write_yes {cx : Array Value} {m : Msg} {w : World} (hm : IsMsg w cx m) (hr : rightB m.code m.fail = true) (hs : sameB m (msg2 m.code m.fail) = true) (h1 : m.code < 128) :
    Calls Try.prog 12 #[.agg cx] w fun en w' => ∃ A c, en = .returned (.tuple #[.slice A ([m.code + 128, m.fail]).length c, .int .i64 0]) ∧ ([m.code + 128, m.fail]).length ≤ c ∧ Kd.C (Kd.int .u8) w' A ([m.code + 128, m.fail]).length ([m.code + 128, m.fail]) ∧ Below w.heap.size w w' := by
  have M := Aside0.mk hm
  have G := goodM_num hm.good
  have HC := Aside0.mk G.1.1
  have HF := Aside0.mk G.1.2.1
  have hsz := hm.size
  have hix := msg_info hsz
  have H := Aside0.mk (Held.box w cx)
  have kc := bx_code (H.out.at 0 rfl) hm
  have kf := bx_fail (H.out.at 0 rfl) hm
  have b0 := G.1.1.1
  have b1 := G.1.1.2
  have b2 := G.1.2.1.1
  have b3 := G.1.2.1.2
  clear hm G
  have wx : IntKind.u8.wrap (m.code + 128) = m.code + 128 := by simp [IntKind.wrap, IntKind.bits, IntKind.signed]; omega
  have WX := Aside0.mk wx
  clear wx
  go_enter Try.func12, Try.ntmps12
  go_upto_region 2 with (fail)
  obtain ⟨wp, hwp⟩ : ∃ z, z = (w.alloc (.cells cx 30 (0, 0))).alloc (Obj.cells #[Value.int IntKind.u8 (m.code), Value.int IntKind.u8 (m.fail)] 45) := ⟨_, rfl⟩
  have hb_ : Below (w.alloc (.cells cx 30 (0, 0))).heap.size (w.alloc (.cells cx 30 (0, 0))) wp := by rw [hwp]; exact below_alloc (Below.refl _ _) _
  have K0 : wp.heap[w.heap.size + 1]? = some (Obj.cells #[Value.int IntKind.u8 m.code, Value.int IntKind.u8 m.fail] 45 (0, 0)) := by rw [hwp]; have := blk_new (w.alloc (.cells cx 30 (0, 0))) (Obj.cells #[Value.int IntKind.u8 (m.code), Value.int IntKind.u8 (m.fail)] 45); simpa using this
  rw [← hwp]
  have n0_ := Aside0.mk (H.out.on hb_); clear H; have H := n0_; clear n0_; clear hb_ hwp
  have KK := Aside0.mk K0
  have k0 := (blk_cell K0 0).trans rfl
  have k1 := (blk_cell K0 1).trans rfl
  clear K0 kc kf
  refine start_ (n := 10) (S := fun w' => w'.cell? ⟨w.heap.size + 1, 0, none⟩ = some (.int .u8 m.code) ∧ w'.cell? ⟨w.heap.size + 1, 1, none⟩ = some (.int .u8 m.fail) ∧ Aside0 (Held w [(w.heap.size, cx)] w')) (ds := []) (bm 10 0) (by as_aux_lemma => kernel_rfl) rfl (by as_aux_lemma => kernel_rfl) ⟨k0, k1, (Aside0.mk H.out.drew)⟩ (fun hHeld => ?_)
  refine with_tabW rwrite.tab2 rwrite.bits2 (fun HT_ HW_ => ?_)
  refine take_ (i := 0) (N := some 10) (v := ?_) (a' := ?_) (bm 10 1) rfl rfl (take_ofW HT_.out HW_.out (by as_aux_lemma => kernel_rfl)) (fun _ _ _ h => h) (Or.inl ⟨by rfl, ?_⟩) hHeld ?_ ?_
  rotate_left
  · rintro w' ⟨s0, s1, s2⟩
    go_simp
    with_reducible rfl
  rotate_left
  · simp only [Act.put, List.setIfInBounds_toArray, List.set_cons_zero, List.set_cons_succ, i64_w, i32_w]
    rfl
  refine one_ (i := 1) (N := some 11) (bm 10 3) rfl rfl (one_of HT_.out (by as_aux_lemma => kernel_rfl)) (by as_aux_lemma => decide) (fun K hK => ?_)
  refine goes_ Try.func23 (by as_aux_lemma => kernel_rfl) rfl #[.agg #[.int .u8 m.code, .int .u8 m.fail]] (by rfl) rfl rfl (by simp only [List.map_toArray, List.map_cons, List.map_nil]; rfl) ?_
  with_reducible refine (right_c HC.out HF.out _).mono ?_
  rintro en w5 ⟨rfl, hb_⟩
  have KR := Aside0.mk (blk_below (blk_drew KK.out) hb_)
  have n0_ := Aside0.mk (hHeld.2.2.out.on hb_)
  clear H
  have H := n0_
  clear n0_ hb_
  refine ⟨_, rfl, ?_⟩
  refine hK.out _ _ ⟨((blk_cell KR.out 0).trans rfl), ((blk_cell KR.out 1).trans rfl), H⟩ (fun hHeld => ?_)
  clear hK K
  refine norm_ (a' := ?_) ?_ ?_
  rotate_left
  · show Act.put _ (some 11) _ = _
    simp only [Act.put, List.setIfInBounds_toArray, List.set_cons_zero, List.set_cons_succ, i64_w, i32_w]
    rfl
  refine pure_ (i := 2) (N := some 12) (v := ?_) (a' := ?_) (bm 10 7) rfl rfl (any_of HT_.out (by as_aux_lemma => kernel_rfl)) (fun _ _ _ h => h) (Or.inl ⟨by rfl, ?_⟩) ?_ ?_
  rotate_left
  · intro w'
    go_simp
    with_reducible rfl
  rotate_left
  · simp only [Act.put, List.setIfInBounds_toArray, List.set_cons_zero, List.set_cons_succ, i64_w, i32_w]
    rfl
  refine pure_ (i := 3) (N := some 13) (v := ?_) (a' := ?_) (bm 10 15) rfl rfl (any_of HT_.out (by as_aux_lemma => kernel_rfl)) (fun _ _ _ h => h) (Or.inl ⟨by rfl, ?_⟩) ?_ ?_
  rotate_left
  · intro w'
    go_simp
    with_reducible rfl
  rotate_left
  · simp only [Act.put, List.setIfInBounds_toArray, List.set_cons_zero, List.set_cons_succ, i64_w, i32_w]
    rfl
  refine take_ (i := 4) (N := some 14) (v := ?_) (a' := ?_) (bm 10 31) rfl rfl (take_ofW HT_.out HW_.out (by as_aux_lemma => kernel_rfl)) (fun _ _ _ h => h) (Or.inl ⟨by rfl, ?_⟩) hHeld ?_ ?_
  rotate_left
  · rintro w' ⟨s0, s1, s2⟩
    refine exec_load_row 30 (.tmp 1) ?ha_4 w.heap.size ?hb_4 30 cx (0, 0) _ (s2.out.at 0 rfl) Try.underlying30 ?hc_4 hix
    case ha_4 => rfl
    case hb_4 => rfl
    exact rfl
  rotate_left
  · simp only [Act.put, List.setIfInBounds_toArray, List.set_cons_zero, List.set_cons_succ, i64_w, i32_w]
    rfl
  refine take_ (i := 5) (N := some 15) (v := ?_) (a' := ?_) (bm 10 63) rfl rfl (take_ofW HT_.out HW_.out (by as_aux_lemma => kernel_rfl)) (fun _ _ _ h => h) (Or.inl ⟨by rfl, ?_⟩) hHeld ?_ ?_
  rotate_left
  · rintro w' ⟨s0, s1, s2⟩
    go_simp
    with_reducible rfl
  rotate_left
  · simp only [Act.put, List.setIfInBounds_toArray, List.set_cons_zero, List.set_cons_succ, i64_w, i32_w]
    rfl
  refine one_ (i := 6) (N := some 16) (bm 10 127) rfl rfl (one_of HT_.out (by as_aux_lemma => kernel_rfl)) (by as_aux_lemma => decide) (fun K hK => ?_)
  refine goes_ Try.func20 (by as_aux_lemma => kernel_rfl) rfl #[.agg #[.int .u8 m.code, .int .u8 m.fail]] (by rfl) rfl rfl (by simp only [List.map_toArray, List.map_cons, List.map_nil]; rfl) ?_
  with_reducible refine (of_any m.code m.fail HC.out HF.out _).mono ?_
  rintro en w6 ⟨rfl, hb_⟩
  have KO := Aside0.mk (blk_below KR.out hb_)
  have n0_ := Aside0.mk (hHeld.2.2.out.on hb_)
  clear H
  have H := n0_
  clear n0_ hb_
  refine ⟨_, rfl, ?_⟩
  refine hK.out _ _ ⟨((blk_cell KO.out 0).trans rfl), ((blk_cell KO.out 1).trans rfl), H⟩ (fun hHeld => ?_)
  clear hK K
  refine norm_ (a' := ?_) ?_ ?_
  rotate_left
  · show Act.put _ (some 16) _ = _
    simp only [Act.put, List.setIfInBounds_toArray, List.set_cons_zero, List.set_cons_succ, i64_w, i32_w]
    rfl
  refine one_ (i := 7) (N := some 17) (bm 10 255) rfl rfl (one_of HT_.out (by as_aux_lemma => kernel_rfl)) (by as_aux_lemma => decide) (fun K hK => ?_)
  refine goes_ Try.func24 (by as_aux_lemma => kernel_rfl) rfl #[.agg cx, .agg (msg2C m.code m.fail)] (by rfl) rfl rfl (by simp only [List.map_toArray, List.map_cons, List.map_nil]; rfl) ?_
  with_reducible refine (same_msg (M.out.on (hHeld.2.2.out.b)) (msg2_is HC.out HF.out _)).mono ?_
  rintro en w7 ⟨rfl, hb_⟩
  have KS := Aside0.mk (blk_below KO.out hb_)
  have n0_ := Aside0.mk (hHeld.2.2.out.on hb_)
  clear H
  have H := n0_
  clear n0_ hb_
  refine ⟨_, rfl, ?_⟩
  refine hK.out _ _ ⟨((blk_cell KS.out 0).trans rfl), ((blk_cell KS.out 1).trans rfl), H⟩ (fun hHeld => ?_)
  clear hK K
  refine norm_ (a' := ?_) ?_ ?_
  rotate_left
  · show Act.put _ (some 17) _ = _
    simp only [Act.put, List.setIfInBounds_toArray, List.set_cons_zero, List.set_cons_succ, i64_w, i32_w]
    rfl
  refine pure_ (i := 8) (N := some 18) (v := ?_) (a' := ?_) (bm 10 511) rfl rfl (any_of HT_.out (by as_aux_lemma => kernel_rfl)) (fun _ _ _ h => h) (Or.inl ⟨by rfl, ?_⟩) ?_ ?_
  rotate_left
  · intro w'
    go_simp
    with_reducible rfl
  rotate_left
  · simp only [Act.put, List.setIfInBounds_toArray, List.set_cons_zero, List.set_cons_succ, i64_w, i32_w]
    rfl
  refine pure_ (i := 9) (N := some 19) (v := ?_) (a' := ?_) (bm 10 1023) rfl rfl (any_of HT_.out (by as_aux_lemma => kernel_rfl)) (fun _ _ _ h => h) (Or.inl ⟨by rfl, ?_⟩) ?_ ?_
  rotate_left
  · intro w'
    go_simp
    with_reducible rfl
  rotate_left
  · simp only [Act.put, List.setIfInBounds_toArray, List.set_cons_zero, List.set_cons_succ, i64_w, i32_w]
    rfl
  refine done_ (done_of HT_.out (by as_aux_lemma => kernel_rfl)) ?_
  
  have kc := bx_code (H.out.at 0 rfl) M.out
  have kf := bx_fail (H.out.at 0 rfl) M.out
  have wx := WX.out
  go_wp2_with (first | ((with_reducible refine gate_dst (N := 25) rfl ?_); refine ev_lit .u8 [m.code + 128, m.fail] 5 rfl (by first | (go_simp; done) | (go_simp; rfl)) (by simp) ?_; intro Ax cx_ wl bs he_ hr_ hz_ hb_; have R := Aside0.mk hr_; have Rz := Aside0.mk hz_; have Re := Aside0.mk he_; have n0_ := Aside0.mk (H.out.on hb_); clear H; have H := n0_; clear n0_; clear hr_ hz_ hb_ he_))
  go_ret2
  have e_ := Re.out
  subst e_
  exact ⟨Ax, cx_, rfl, Rz.out, R.out, H.out.b⟩
/-- The bytes of a message as a refusal, or that it is none. -/
def write (m : Msg) : List Int × Int := if rightB m.code m.fail = true ∧ sameB m (msg2 m.code m.fail) = true then ([m.code + 128, m.fail], 0) else ([], 1)
theorem pub_lt {c : Int} (h : 0 ≤ c ∧ c < 256) (hp : pubB c = true) : c < 128 := by
  obtain ⟨a, rfl⟩ := byte_fin h
  by_cases hl : 128 ≤ a.val
  · rw [(pub_fin a).2.2.1 hl] at hp; cases hp
  · omega
theorem right_lt {c f : Int} (h : 0 ≤ c ∧ c < 256) (hp : rightB c f = true) : c < 128 := by
  unfold rightB at hp
  rw [Bool.and_eq_true] at hp
  exact pub_lt h hp.1
theorem write_any {cx : Array Value} {m : Msg} {w : World} (hm : IsMsg w cx m) :
    Calls Try.prog 12 #[.agg cx] w fun en w' => ∃ A c, en = .returned (.tuple #[.slice A ((write m).1).length c, .int .i64 (write m).2]) ∧ ((write m).1).length ≤ c ∧ Kd.C (Kd.int .u8) w' A ((write m).1).length ((write m).1) ∧ Below w.heap.size w w' := by
  have hc := (goodM_num hm.good).1.1
  unfold write
  cases hr : rightB m.code m.fail with
  | false => rw [if_neg (fun h => by cases h.1)]; exact write_no hm hr
  | true =>
  cases hs : sameB m (msg2 m.code m.fail) with
  | false => rw [if_neg (fun h => by cases h.2)]; exact write_not hm hr hs
  | true => rw [if_pos ⟨rfl, rfl⟩]; exact write_yes hm hr hs (right_lt hc hr)
set_option maxHeartbeats 16000000 in
set_option maxRecDepth 100000 in
theorem rwrite_big {cx : Array Value} {m : Msg} {w : World} (hm : IsMsg w cx m) (h1 : 128 ≤ m.code) :
    Calls Try.prog 13 #[.agg cx] w fun en w' => ∃ A c, en = .returned (.tuple #[.slice A (([] : List Int)).length c, .int .i64 1]) ∧ (([] : List Int)).length ≤ c ∧ Kd.C (Kd.int .u8) w' A (([] : List Int)).length (([] : List Int)) ∧ Below w.heap.size w w' := by
  have M := Aside0.mk hm
  have G := goodM_num hm.good
  have HC := Aside0.mk G.1.1
  have HF := Aside0.mk G.1.2.1
  have hsz := hm.size
  have hix := msg_info hsz
  have H := Aside0.mk (Held.box w cx)
  have kc := bx_code (H.out.at 0 rfl) hm
  have kf := bx_fail (H.out.at 0 rfl) hm
  have b0 := G.1.1.1
  have b1 := G.1.1.2
  have b2 := G.1.2.1.1
  have b3 := G.1.2.1.2
  clear hm G
  have d1 : decide (m.code ≥ 128) = true := decide_eq_true (by omega)
  have d2 : decide ((128 : Int) ≤ m.code) = true := decide_eq_true (by omega)
  go_enter Try.func13, Try.ntmps13
  go_wp2
  go_ret2
  exact ⟨none, 0, rfl, Nat.le_refl _, Kd.C_nil _ _, H.out.b⟩
set_option maxHeartbeats 16000000 in
set_option maxRecDepth 100000 in
theorem rwrite_err {cx : Array Value} {m : Msg} {w : World} (hm : IsMsg w cx m) (h1 : ¬ 128 ≤ m.code) (he : (parse [m.code + 128, m.fail]).2 ≠ 0) :
    Calls Try.prog 13 #[.agg cx] w fun en w' => ∃ A c, en = .returned (.tuple #[.slice A (([] : List Int)).length c, .int .i64 1]) ∧ (([] : List Int)).length ≤ c ∧ Kd.C (Kd.int .u8) w' A (([] : List Int)).length (([] : List Int)) ∧ Below w.heap.size w w' := by
  have M := Aside0.mk hm
  have G := goodM_num hm.good
  have HC := Aside0.mk G.1.1
  have HF := Aside0.mk G.1.2.1
  have hsz := hm.size
  have hix := msg_info hsz
  have H := Aside0.mk (Held.box w cx)
  have kc := bx_code (H.out.at 0 rfl) hm
  have kf := bx_fail (H.out.at 0 rfl) hm
  have b0 := G.1.1.1
  have b1 := G.1.1.2
  have b2 := G.1.2.1.1
  have b3 := G.1.2.1.2
  clear hm G
  have d1 : decide (m.code ≥ 128) = false := decide_eq_false (by omega)
  have d2 : decide ((128 : Int) ≤ m.code) = false := decide_eq_false (by omega)
  have wx : IntKind.u8.wrap (m.code + 128) = m.code + 128 := by simp [IntKind.wrap, IntKind.bits, IntKind.signed]; omega
  have HBY := Aside0.mk (show isBytes [m.code + 128, m.fail] from fun x hx => by rcases List.mem_cons.1 hx with rfl | hx; (constructor <;> omega); rcases List.mem_cons.1 hx with rfl | hx; (constructor <;> omega); cases hx)
  have HP := Aside0.mk (show ∀ (A : Option Addr) (c : Nat) (bs : List Int) (W : World), bs = [m.code + 128, m.fail] → Kd.C (Kd.int .u8) W A bs.length bs → Calls Try.prog 9 #[.slice A bs.length c] W fun en w' => ∃ cx, en = .returned (.tuple #[.agg cx, .int .i64 (parse [m.code + 128, m.fail]).2]) ∧ IsMsg w' cx (parse [m.code + 128, m.fail]).1 ∧ Below W.heap.size W w' from fun A c bs W he hr => by subst he; exact rparse_any A c _ W hr HBY.out)
  generalize hP : parse [m.code + 128, m.fail] = P at *
  clear hP
  have e0 : (P.2 == 0) = false := beq_eq_false_iff_ne.2 he
  have e1 : (P.2 != 0) = true := by rw [bne, e0]; rfl
  have HE := Aside0.mk he
  clear he
  go_enter Try.func13, Try.ntmps13
  go_upto_region 4 with (first | ((with_reducible refine gate_dst (N := 16) rfl ?_); refine ev_lit .u8 [m.code + 128, m.fail] 5 rfl (by first | (go_simp; done) | (go_simp; rfl)) (by simp) ?_; intro Ax cx_ wl bs he_ hr_ hz_ hb_; have R := Aside0.mk hr_; have Rz := Aside0.mk hz_; have Re := Aside0.mk he_; have n0_ := Aside0.mk (H.out.on hb_); clear H; have H := n0_; clear n0_; clear hr_ hz_ hb_ he_))
  clear wx
  go_upto_region 5 with (first | (go_at_call 9; with_reducible refine (HP.out Ax cx_ bs _ Re.out R.out).mono ?_; rintro en wq ⟨cy, rfl, hy_, hb_⟩; have MY := Aside0.mk hy_; have R2 := Aside0.mk (Kd.C_below R.out hb_); have n0_ := Aside0.mk (H.out.on hb_); clear H hy_ hb_; have H := n0_; clear n0_) | ((with_reducible refine gate_dst (N := 5) rfl ?_); refine ev_var (y := .tmp 20) rfl rfl rfl rfl rfl (MY.out) rfl rfl ?_; intro g5 w5 hg_ h1_ hb_; have n0_ := Aside0.mk (H.out.new hg_ h1_ hb_); clear H; have H := n0_; clear n0_; have MY2 := Aside0.mk (MY.out.on hb_); have R3 := Aside0.mk (Kd.C_below R2.out hb_); clear h1_ hb_ hg_))
  have MX := Aside0.mk (M.out.on H.out.b)
  go_wp2_with (first | ((with_reducible refine gate_dst (N := 22) rfl ?_); refine ev_load (x := .tmp 5) rfl rfl rfl H.out (i := 1) rfl (MY.out.size) ?_) | ((with_reducible refine gate_dst (N := 23) rfl ?_); refine ev_load (x := .tmp 1) rfl rfl rfl H.out (i := 0) rfl (hsz) ?_) | (go_at_call 10; with_reducible refine (refsame_msg MY2.out MX.out).mono ?_; rintro en ws ⟨rfl, hb_⟩; have R4 := Aside0.mk (Kd.C_below R3.out hb_); have n0_ := Aside0.mk (H.out.on hb_); clear H hb_; have H := n0_; clear n0_))
  go_ret2
  exact ⟨none, 0, rfl, Nat.le_refl _, Kd.C_nil _ _, H.out.b⟩
set_option maxHeartbeats 16000000 in
set_option maxRecDepth 100000 in
theorem rwrite_not {cx : Array Value} {m : Msg} {w : World} (hm : IsMsg w cx m) (h1 : ¬ 128 ≤ m.code) (he : (parse [m.code + 128, m.fail]).2 = 0) (hs : sameB (parse [m.code + 128, m.fail]).1 m = false) :
    Calls Try.prog 13 #[.agg cx] w fun en w' => ∃ A c, en = .returned (.tuple #[.slice A (([] : List Int)).length c, .int .i64 1]) ∧ (([] : List Int)).length ≤ c ∧ Kd.C (Kd.int .u8) w' A (([] : List Int)).length (([] : List Int)) ∧ Below w.heap.size w w' := by
  have M := Aside0.mk hm
  have G := goodM_num hm.good
  have HC := Aside0.mk G.1.1
  have HF := Aside0.mk G.1.2.1
  have hsz := hm.size
  have hix := msg_info hsz
  have H := Aside0.mk (Held.box w cx)
  have kc := bx_code (H.out.at 0 rfl) hm
  have kf := bx_fail (H.out.at 0 rfl) hm
  have b0 := G.1.1.1
  have b1 := G.1.1.2
  have b2 := G.1.2.1.1
  have b3 := G.1.2.1.2
  clear hm G
  have d1 : decide (m.code ≥ 128) = false := decide_eq_false (by omega)
  have d2 : decide ((128 : Int) ≤ m.code) = false := decide_eq_false (by omega)
  have wx : IntKind.u8.wrap (m.code + 128) = m.code + 128 := by simp [IntKind.wrap, IntKind.bits, IntKind.signed]; omega
  have HBY := Aside0.mk (show isBytes [m.code + 128, m.fail] from fun x hx => by rcases List.mem_cons.1 hx with rfl | hx; (constructor <;> omega); rcases List.mem_cons.1 hx with rfl | hx; (constructor <;> omega); cases hx)
  have HP := Aside0.mk (show ∀ (A : Option Addr) (c : Nat) (bs : List Int) (W : World), bs = [m.code + 128, m.fail] → Kd.C (Kd.int .u8) W A bs.length bs → Calls Try.prog 9 #[.slice A bs.length c] W fun en w' => ∃ cx, en = .returned (.tuple #[.agg cx, .int .i64 (parse [m.code + 128, m.fail]).2]) ∧ IsMsg w' cx (parse [m.code + 128, m.fail]).1 ∧ Below W.heap.size W w' from fun A c bs W he hr => by subst he; exact rparse_any A c _ W hr HBY.out)
  generalize hP : parse [m.code + 128, m.fail] = P at *
  clear hP
  have e0 : (P.2 == 0) = true := beq_iff_eq.2 he
  have e1 : (P.2 != 0) = false := by rw [bne, e0]; rfl
  have HE := Aside0.mk he
  clear he
  go_enter Try.func13, Try.ntmps13
  go_upto_region 4 with (first | ((with_reducible refine gate_dst (N := 16) rfl ?_); refine ev_lit .u8 [m.code + 128, m.fail] 5 rfl (by first | (go_simp; done) | (go_simp; rfl)) (by simp) ?_; intro Ax cx_ wl bs he_ hr_ hz_ hb_; have R := Aside0.mk hr_; have Rz := Aside0.mk hz_; have Re := Aside0.mk he_; have n0_ := Aside0.mk (H.out.on hb_); clear H; have H := n0_; clear n0_; clear hr_ hz_ hb_ he_))
  clear wx
  go_upto_region 5 with (first | (go_at_call 9; with_reducible refine (HP.out Ax cx_ bs _ Re.out R.out).mono ?_; rintro en wq ⟨cy, rfl, hy_, hb_⟩; have MY := Aside0.mk hy_; have R2 := Aside0.mk (Kd.C_below R.out hb_); have n0_ := Aside0.mk (H.out.on hb_); clear H hy_ hb_; have H := n0_; clear n0_) | ((with_reducible refine gate_dst (N := 5) rfl ?_); refine ev_var (y := .tmp 20) rfl rfl rfl rfl rfl (MY.out) rfl rfl ?_; intro g5 w5 hg_ h1_ hb_; have n0_ := Aside0.mk (H.out.new hg_ h1_ hb_); clear H; have H := n0_; clear n0_; have MY2 := Aside0.mk (MY.out.on hb_); have R3 := Aside0.mk (Kd.C_below R2.out hb_); clear h1_ hb_ hg_))
  have MX := Aside0.mk (M.out.on H.out.b)
  go_wp2_with (first | ((with_reducible refine gate_dst (N := 22) rfl ?_); refine ev_load (x := .tmp 5) rfl rfl rfl H.out (i := 1) rfl (MY.out.size) ?_) | ((with_reducible refine gate_dst (N := 23) rfl ?_); refine ev_load (x := .tmp 1) rfl rfl rfl H.out (i := 0) rfl (hsz) ?_) | (go_at_call 10; with_reducible refine (refsame_msg MY2.out MX.out).mono ?_; rintro en ws ⟨rfl, hb_⟩; have R4 := Aside0.mk (Kd.C_below R3.out hb_); have n0_ := Aside0.mk (H.out.on hb_); clear H hb_; have H := n0_; clear n0_))
  go_ret2
  exact ⟨none, 0, rfl, Nat.le_refl _, Kd.C_nil _ _, H.out.b⟩
set_option maxHeartbeats 16000000 in
set_option maxRecDepth 100000 in
theorem rwrite_yes {cx : Array Value} {m : Msg} {w : World} (hm : IsMsg w cx m) (h1 : ¬ 128 ≤ m.code) (he : (parse [m.code + 128, m.fail]).2 = 0) (hs : sameB (parse [m.code + 128, m.fail]).1 m = true) :
    Calls Try.prog 13 #[.agg cx] w fun en w' => ∃ A c, en = .returned (.tuple #[.slice A ([m.code + 128, m.fail]).length c, .int .i64 0]) ∧ ([m.code + 128, m.fail]).length ≤ c ∧ Kd.C (Kd.int .u8) w' A ([m.code + 128, m.fail]).length ([m.code + 128, m.fail]) ∧ Below w.heap.size w w' := by
  have M := Aside0.mk hm
  have G := goodM_num hm.good
  have HC := Aside0.mk G.1.1
  have HF := Aside0.mk G.1.2.1
  have hsz := hm.size
  have hix := msg_info hsz
  have H := Aside0.mk (Held.box w cx)
  have kc := bx_code (H.out.at 0 rfl) hm
  have kf := bx_fail (H.out.at 0 rfl) hm
  have b0 := G.1.1.1
  have b1 := G.1.1.2
  have b2 := G.1.2.1.1
  have b3 := G.1.2.1.2
  clear hm G
  have d1 : decide (m.code ≥ 128) = false := decide_eq_false (by omega)
  have d2 : decide ((128 : Int) ≤ m.code) = false := decide_eq_false (by omega)
  have wx : IntKind.u8.wrap (m.code + 128) = m.code + 128 := by simp [IntKind.wrap, IntKind.bits, IntKind.signed]; omega
  have HBY := Aside0.mk (show isBytes [m.code + 128, m.fail] from fun x hx => by rcases List.mem_cons.1 hx with rfl | hx; (constructor <;> omega); rcases List.mem_cons.1 hx with rfl | hx; (constructor <;> omega); cases hx)
  have HP := Aside0.mk (show ∀ (A : Option Addr) (c : Nat) (bs : List Int) (W : World), bs = [m.code + 128, m.fail] → Kd.C (Kd.int .u8) W A bs.length bs → Calls Try.prog 9 #[.slice A bs.length c] W fun en w' => ∃ cx, en = .returned (.tuple #[.agg cx, .int .i64 (parse [m.code + 128, m.fail]).2]) ∧ IsMsg w' cx (parse [m.code + 128, m.fail]).1 ∧ Below W.heap.size W w' from fun A c bs W he hr => by subst he; exact rparse_any A c _ W hr HBY.out)
  generalize hP : parse [m.code + 128, m.fail] = P at *
  clear hP
  have e0 : (P.2 == 0) = true := beq_iff_eq.2 he
  have e1 : (P.2 != 0) = false := by rw [bne, e0]; rfl
  have HE := Aside0.mk he
  clear he
  go_enter Try.func13, Try.ntmps13
  go_upto_region 4 with (first | ((with_reducible refine gate_dst (N := 16) rfl ?_); refine ev_lit .u8 [m.code + 128, m.fail] 5 rfl (by first | (go_simp; done) | (go_simp; rfl)) (by simp) ?_; intro Ax cx_ wl bs he_ hr_ hz_ hb_; have R := Aside0.mk hr_; have Rz := Aside0.mk hz_; have Re := Aside0.mk he_; have n0_ := Aside0.mk (H.out.on hb_); clear H; have H := n0_; clear n0_; clear hr_ hz_ hb_ he_))
  clear wx
  go_upto_region 5 with (first | (go_at_call 9; with_reducible refine (HP.out Ax cx_ bs _ Re.out R.out).mono ?_; rintro en wq ⟨cy, rfl, hy_, hb_⟩; have MY := Aside0.mk hy_; have R2 := Aside0.mk (Kd.C_below R.out hb_); have n0_ := Aside0.mk (H.out.on hb_); clear H hy_ hb_; have H := n0_; clear n0_) | ((with_reducible refine gate_dst (N := 5) rfl ?_); refine ev_var (y := .tmp 20) rfl rfl rfl rfl rfl (MY.out) rfl rfl ?_; intro g5 w5 hg_ h1_ hb_; have n0_ := Aside0.mk (H.out.new hg_ h1_ hb_); clear H; have H := n0_; clear n0_; have MY2 := Aside0.mk (MY.out.on hb_); have R3 := Aside0.mk (Kd.C_below R2.out hb_); clear h1_ hb_ hg_))
  have MX := Aside0.mk (M.out.on H.out.b)
  go_wp2_with (first | ((with_reducible refine gate_dst (N := 22) rfl ?_); refine ev_load (x := .tmp 5) rfl rfl rfl H.out (i := 1) rfl (MY.out.size) ?_) | ((with_reducible refine gate_dst (N := 23) rfl ?_); refine ev_load (x := .tmp 1) rfl rfl rfl H.out (i := 0) rfl (hsz) ?_) | (go_at_call 10; with_reducible refine (refsame_msg MY2.out MX.out).mono ?_; rintro en ws ⟨rfl, hb_⟩; have R4 := Aside0.mk (Kd.C_below R3.out hb_); have n0_ := Aside0.mk (H.out.on hb_); clear H hb_; have H := n0_; clear n0_))
  go_ret2
  have e_ := Re.out
  subst e_
  exact ⟨Ax, cx_, rfl, Rz.out, R4.out, H.out.b⟩
end Go.Proofs.Ytbilolgiihegiaa.Refu
