/- What the laws of this chapter rest on, part 5: what the functions that they reach answer, each shown once. Conditions: what each theorem states. (Merged by a program of this session, wip/tools/merge.py, out of its own texts and of the words that the kit's print wrote for this seat, cut to those that are used.) -/
import Derived.Test.YtalaochocmcbcaaPD
set_option linter.unusedVariables false
set_option linter.unusedSimpArgs false
set_option maxHeartbeats 16000000
set_option maxRecDepth 100000
section
namespace Go.Proofs.Ytalaochocmcbcaa.DiagR
open Go.RowKit Go.Proofs.Ytalaochocmcbcaa.P Go.Proofs.Ytalaochocmcbcaa.E Go.Proofs.Ytalaochocmcbcaa.Cur Go.Proofs.Ytalaochocmcbcaa.Cu Go.Proofs.Ytalaochocmcbcaa.Same Go.Proofs.Ytalaochocmcbcaa.Code Go.Proofs.Ytalaochocmcbcaa.Diag Go.Proofs.YtalaochocmcbcaaW.PrintWords Go.Proofs.YtalaochocmcbcaaW.PrintLast Go.Proofs.YtalaochocmcbcaaW.PrintMore
def wordR (dir s : Int) (m : Msg) : (Cu → Cu × Msg) := Rd.bind Rd.word fun v => Rd.bind (Rd.need (mayB dir s v) 6) fun _ => Rd.ret { m with sub := s, words := [v] }
def rlineR (dir : Int) (m : Msg) : (Cu → Cu × Msg) := Rd.bind Rd.word fun s => Rd.bind (Rd.need (subB s && (dir == 0 || s != 4)) 8) fun _ => if s = 0 then echoR { m with sub := s } else wordR dir s m
def rbodyR (dir : Int) (m : Msg) : (Cu → Cu × Msg) := if m.code = 8 then rlineR dir m else if dir = 1 then ansR m else Rd.ret m
def rparse (dir code : Int) (bs : List Int) : Msg × Int :=
  if dir ≠ 0 ∧ dir ≠ 1 then (zeroM, 1) else if ¬ isCode code then (zeroM, 4) else
  if (rbodyR dir { zeroM with code := code } (cu bs)).1.fin.e ≠ 0 then (zeroM, (rbodyR dir { zeroM with code := code } (cu bs)).1.fin.e) else ((rbodyR dir { zeroM with code := code } (cu bs)).2, 0)
theorem one_word {c : Cu} (h : c.okW 1 = true) : c.wordsV 1 = [c.wordV] := by
  obtain ⟨x, y, l, e⟩ := two_of h
  have e1 : c.wordsV 1 = Take.words [x, y] := by
    unfold Cu.wordsV
    rw [if_pos h, e]
    rfl
  have e2 : Take.words [x, y] = [x * 256 + y] := by simp [Take.words, Take.pre, Take.wordAt, List.range_succ]
  have e3 : c.wordV = (c.wordsV 1).headD 0 := rfl
  rw [e3, e1, e2]
  rfl
theorem line_eq (dir : Int) (m : Msg) (c : Cu) : (rlineR dir m c).1 = (lineR dir m c).1 ∧ ((lineR dir m c).1.e = 0 → (rlineR dir m c).2 = (lineR dir m c).2) := by
  unfold rlineR lineR
  have e : ∀ {α β : Type} (r : Cu → Cu × α) (f : α → Cu → Cu × β), Rd.bind r f c = f (r c).2 (r c).1 := fun _ _ => rfl
  rw [e, e]
  obtain ⟨s, hs⟩ : ∃ s, s = (Rd.word c).2 := ⟨_, rfl⟩
  obtain ⟨c1, hc1⟩ : ∃ c1, c1 = (Rd.word c).1 := ⟨_, rfl⟩
  rw [← hs, ← hc1]
  have e : ∀ {α β : Type} (r : Cu → Cu × α) (f : α → Cu → Cu × β), Rd.bind r f c1 = f (r c1).2 (r c1).1 := fun _ _ => rfl
  rw [e, e]
  obtain ⟨c2, hc2⟩ : ∃ c2, c2 = (Rd.need (subB s && (dir == 0 || s != 4)) 8 c1).1 := ⟨_, rfl⟩
  rw [← hc2]
  by_cases hz : s = 0
  · rw [if_pos hz, if_pos hz]
    exact ⟨rfl, fun _ => rfl⟩
  rw [if_neg hz, if_neg hz]
  by_cases hk : c2.okW 1 = true
  · have h1 := one_word hk
    have e1 : (Rd.bind (Rd.words 1) fun l => Rd.bind (Rd.need (l.length == 1 && mayB dir s (l.headD 0)) 6) fun _ => Rd.ret ({ m with sub := s, words := l } : Msg)) c2 = wordR dir s m c2 := by
      show (((c2.wordsS 1).need ((c2.wordsV 1).length == 1 && mayB dir s ((c2.wordsV 1).headD 0)) 6), ({ m with sub := s, words := c2.wordsV 1 } : Msg)) = _
      rw [h1]
      rfl
    rw [e1]
    exact ⟨rfl, fun _ => rfl⟩
  · have h0 : (c2.wordsS 1).e ≠ 0 := by
      intro h
      have h2 : c2.wordS.e = 0 := h
      obtain ⟨_, h3, a, b, t, h4, _⟩ := word_ok h2
      exact hk ((Cu.okW_iff c2 1).2 ⟨h3, by omega, by rw [h4]; simp only [List.length_cons]; omega⟩)
    have e1 : ∀ ok : Bool, (c2.wordsS 1).need ok 6 = c2.wordsS 1 := fun ok => need_dead h0 ok 6
    refine ⟨?_, fun h => ?_⟩
    · show (c2.wordsS 1).need _ 6 = (c2.wordsS 1).need _ 6
      rw [e1, e1]
    · have h : ((c2.wordsS 1).need ((c2.wordsV 1).length == 1 && mayB dir s ((c2.wordsV 1).headD 0)) 6).e = 0 := h
      rw [e1] at h
      exact absurd h h0
theorem body_eq (dir : Int) (m : Msg) (c : Cu) : (rbodyR dir m c).1 = (bodyR dir m c).1 ∧ ((bodyR dir m c).1.e = 0 → (rbodyR dir m c).2 = (bodyR dir m c).2) := by
  unfold rbodyR bodyR
  by_cases h : m.code = 8
  · rw [if_pos h, if_pos h]; exact line_eq dir m c
  · rw [if_neg h, if_neg h]; exact ⟨rfl, fun _ => rfl⟩
theorem rparse_eq (dir code : Int) (bs : List Int) : rparse dir code bs = parse dir code bs := by
  unfold rparse parse
  by_cases h1 : dir ≠ 0 ∧ dir ≠ 1
  · rw [if_pos h1, if_pos h1]
  rw [if_neg h1, if_neg h1]
  by_cases h2 : ¬ isCode code
  · rw [if_pos h2, if_pos h2]
  rw [if_neg h2, if_neg h2]
  obtain ⟨e1, e2⟩ := body_eq dir { zeroM with code := code } (cu bs)
  rw [e1]
  by_cases h3 : (bodyR dir { zeroM with code := code } (cu bs)).1.fin.e ≠ 0
  · rw [if_pos h3, if_pos h3]
  rw [if_neg h3, if_neg h3, e2 (fin_ok (by simpa using h3)).1]
theorem rsub_c {s : Int} (hs : 0 ≤ s ∧ s < 65536) (w : World) : Calls Try.prog 19 #[.int .u16 s] w fun en w' => en = .returned (.bool (subB s)) ∧ Below w.heap.size w w' := by
  have e : busbarref07_Sub.f s = some (subB s) := by
    unfold busbarref07_Sub.f subB
    have e1 : bitsubL.contains s = decide (s ≤ 4 ∨ (10 ≤ s ∧ s ≤ 18) ∨ s = 20) := by
      rw [Bool.eq_iff_iff]
      simp only [bitsubL, List.contains_eq_mem, List.mem_cons, List.not_mem_nil, or_false, decide_eq_true_eq]
      omega
    rw [e1]
    by_cases h : s ≤ 4
    · rw [if_pos h, decide_eq_true (show s ≤ 4 ∨ (10 ≤ s ∧ s ≤ 18) ∨ s = 20 by omega)]
    rw [if_neg h]
    have e20 : (s == 20) = decide (s = 20) := by rw [Bool.eq_iff_iff]; simp
    by_cases h2 : s ≥ 10
    · rw [if_pos h2]
      by_cases h3 : s ≤ 18
      · rw [if_pos h3, decide_eq_true (show s ≤ 4 ∨ (10 ≤ s ∧ s ≤ 18) ∨ s = 20 by omega)]
      · rw [if_neg h3, e20]
        exact congrArg some (decide_eq_decide.2 ⟨fun h => by omega, fun h => by omega⟩)
    · rw [if_neg h2, e20]
      exact congrArg some (decide_eq_decide.2 ⟨fun h => by omega, fun h => by omega⟩)
  refine (busbarref07_Sub.calls _ _ w e).mono ?_
  rintro e w' ⟨rfl, n, rfl⟩
  exact ⟨rfl, pw_below_drewN (Below.refl _ _) _⟩
theorem rmay_c {d s v : Int} (hd : d = 0 ∨ d = 1) (hs : 0 ≤ s ∧ s < 65536) (hv : 0 ≤ v ∧ v < 65536) (w : World) : Calls Try.prog 29 #[.int .i64 d, .int .u16 s, .int .u16 v] w fun en w' => en = .returned (.bool (mayB d s v)) ∧ Below w.heap.size w w' := by
  have e : busbarref10_may.f d s v = some (mayB d s v) := by
    unfold busbarref10_may.f mayB
    have z0 : v = 0 → (v == 0) = true := fun h => beq_iff_eq.2 h
    by_cases h1 : s = 1
    · rw [if_pos h1, if_neg (show ¬ ((s = 2 ∨ (11 ≤ s ∧ s ≤ 18)) ∧ d = 1) by omega), if_pos h1]
      by_cases hz : v = 0
      · rw [if_pos hz, z0 hz]; rfl
      · rw [if_neg hz, beq_eq_false_iff_ne.2 hz, Bool.false_or]
    rw [if_neg h1]
    by_cases h3 : s = 3
    · rw [if_pos h3, if_neg (show ¬ ((s = 2 ∨ (11 ≤ s ∧ s ≤ 18)) ∧ d = 1) by omega), if_neg h1, if_pos h3, Int.tmod_eq_emod_of_nonneg hv.1]
    rw [if_neg h3]
    by_cases hd1 : d = 1
    · rw [if_pos hd1]
      by_cases h2 : s = 2
      · rw [if_pos h2, if_pos ⟨.inl h2, hd1⟩]
      rw [if_neg h2]
      by_cases h11 : s ≥ 11
      · rw [if_pos h11]
        by_cases h18 : s ≤ 18
        · rw [if_pos h18, if_pos ⟨.inr ⟨h11, h18⟩, hd1⟩]
        · rw [if_neg h18, if_neg (show ¬ ((s = 2 ∨ (11 ≤ s ∧ s ≤ 18)) ∧ d = 1) by omega), if_neg h1, if_neg h3]
      · rw [if_neg h11, if_neg (show ¬ ((s = 2 ∨ (11 ≤ s ∧ s ≤ 18)) ∧ d = 1) by omega), if_neg h1, if_neg h3]
    · rw [if_neg hd1, if_neg (fun h => hd1 h.2), if_neg h1, if_neg h3]
  refine (busbarref10_may.calls _ _ _ _ w e).mono ?_
  rintro e w' ⟨rfl, n, rfl⟩
  exact ⟨rfl, pw_below_drewN (Below.refl _ _) _⟩
theorem row_kept {S : Nat → Prop} {w w1 : World} {v : Value} {xs : List Int} {e : TypeId} (h : Kd.R (Kd.int .u16) e w1 w.heap.size (fun _ => True) v xs) (hS : ∀ k, S k → k < w.heap.size) : ∃ A n, v = .slice A xs.length n ∧ xs.length ≤ n ∧ ∀ W', Kept w1 W' S → Kd.C (Kd.int .u16) W' A xs.length xs := by
  obtain ⟨A', c', rfl, hz, _⟩ := Kd.R_reads h
  refine ⟨A', c', rfl, hz, fun W' hk => ?_⟩
  obtain ⟨A2, c2, e2, _, h2⟩ := Kd.R_reads (Kd.R_move (Kd.R_bound h) (fun j hj => hk.2 j hj.2.2.1 (by have := hj.2.1; intro hh; have := hS _ hh; omega)))
  injection e2 with e3 e4 e5
  rw [e3]
  exact h2
theorem lt3 {w0 w : World} {gr g gm : Nat} {c : Cu} {m : Msg} (h : QS.St w0 gr g gm w c m) : g < w.heap.size ∧ gm < w.heap.size ∧ gr < w.heap.size := by
  obtain ⟨cx, a1, _⟩ := h.cx
  exact ⟨QAt.lt h.cur, blk_lt a1, blk_lt h.res⟩
theorem parse_dir {A : Option Addr} {c : Nat} {l : List Int} {w0 : World} (hr : Kd.C (Kd.int .u8) w0 A l.length l) (hc : l.length ≤ c) (hs : l.length ≤ 1000000) (hb : isBytes l) {dir code : Int} (h0 : dir ≠ 0) (h1 : dir ≠ 1) :
    Calls Try.prog 13 #[.int .i64 dir, .int .u8 code, .slice A l.length c] w0 fun en w' => ∃ cx, en = .returned (.tuple #[.agg cx, .int .i64 1]) ∧ IsMsg w' cx zeroM ∧ Below w0.heap.size w0 w' := by
  clear hr hc hs hb
  have H := Aside0.mk (Held.start w0)
  have e0 : (dir != 0) = true := by simpa using h0
  have e1 : (dir != 1) = true := by simpa using h1
  have e0' : (dir == 0) = false := by simpa using h0
  have e1' : (dir == 1) = false := by simpa using h1
  clear h0 h1
  go_enter Try.func13, Try.ntmps13
  go_wp2_with (first | ((with_reducible refine gate_dst (N := 6) rfl ?_); refine ev_alloc rfl rfl ?_; intro g w1 hg_ h1_ h2_; have n0_ := Aside0.mk (H.out.new hg_ h1_ h2_); clear H; have H := n0_; clear n0_; clear h1_ h2_ hg_) | ((with_reducible refine gate_dst (N := 21) rfl ?_); refine ev_build (zeroC) rfl (by go_simp; first | rfl | done) ?_; intro cx hcx_; have M := Aside0.mk (show ∀ W, IsMsg W cx _ from fun W => by rw [hcx_]; exact zero_is W); clear hcx_) | ((with_reducible refine gate_op (u := .store 30 (.tmp 6) (.tmp 21)) rfl ?_); refine ev_store rfl rfl rfl rfl H.out (i := 0) rfl (rfl) (M.out w0) ?_; intro w2 h3_ h4_; have n0_ := Aside0.mk (h3_); clear H; have H := n0_; clear n0_; clear h3_ h4_))
  refine bodyPost_ret (results_ct rfl _ _ g 30 cx (0, 0) _ rfl (H.out.at 0 rfl) Try.underlying30 rfl (msg_info ((M.out w0).size))) rfl (⟨cx, rfl, M.out _, H.out.b⟩)
theorem parse_no0 {A : Option Addr} {c : Nat} {l : List Int} {w0 : World} (hr : Kd.C (Kd.int .u8) w0 A l.length l) (hc : l.length ≤ c) (hs : l.length ≤ 1000000) (hb : isBytes l) {code : Int} (hcd : 0 ≤ code ∧ code < 256) (hk : ¬ isCode code) :
    Calls Try.prog 13 #[.int .i64 0, .int .u8 code, .slice A l.length c] w0 fun en w' => ∃ cx, en = .returned (.tuple #[.agg cx, .int .i64 4]) ∧ IsMsg w' cx zeroM ∧ Below w0.heap.size w0 w' := by
  clear hr hc hs hb
  have H := Aside0.mk (Held.start w0)
  have HKB := Aside0.mk hcd
  clear hcd
  have b7 : (code == 7) = false := beq_eq_false_iff_ne.2 (fun e => hk (by unfold isCode; omega))
  have c7 : (code != 7) = true := by rw [bne, b7]; rfl
  have b8 : (code == 8) = false := beq_eq_false_iff_ne.2 (fun e => hk (by unfold isCode; omega))
  have c8 : (code != 8) = true := by rw [bne, b8]; rfl
  have b11 : (code == 11) = false := beq_eq_false_iff_ne.2 (fun e => hk (by unfold isCode; omega))
  have c11 : (code != 11) = true := by rw [bne, b11]; rfl
  have b12 : (code == 12) = false := beq_eq_false_iff_ne.2 (fun e => hk (by unfold isCode; omega))
  have c12 : (code != 12) = true := by rw [bne, b12]; rfl
  have b17 : (code == 17) = false := beq_eq_false_iff_ne.2 (fun e => hk (by unfold isCode; omega))
  have c17 : (code != 17) = true := by rw [bne, b17]; rfl
  clear hk
  go_enter Try.func13, Try.ntmps13
  go_wp2_with (first | ((with_reducible refine gate_dst (N := 6) rfl ?_); refine ev_alloc rfl rfl ?_; intro g w1 hg_ h1_ h2_; have n0_ := Aside0.mk (H.out.new hg_ h1_ h2_); clear H; have H := n0_; clear n0_; clear h1_ h2_ hg_) | ((with_reducible refine gate_dst (N := 40) rfl ?_); refine ev_build (zeroC) rfl (by go_simp; first | rfl | done) ?_; intro cx hcx_; have M := Aside0.mk (show ∀ W, IsMsg W cx _ from fun W => by rw [hcx_]; exact zero_is W); clear hcx_) | ((with_reducible refine gate_op (u := .store 30 (.tmp 6) (.tmp 40)) rfl ?_); refine ev_store rfl rfl rfl rfl H.out (i := 0) rfl (rfl) (M.out w0) ?_; intro w2 h3_ h4_; have n0_ := Aside0.mk (h3_); clear H; have H := n0_; clear n0_; clear h3_ h4_))
  refine bodyPost_ret (results_ct rfl _ _ g 30 cx (0, 0) _ rfl (H.out.at 0 rfl) Try.underlying30 rfl (msg_info ((M.out w0).size))) rfl (⟨cx, rfl, M.out _, H.out.b⟩)
theorem parse_no1 {A : Option Addr} {c : Nat} {l : List Int} {w0 : World} (hr : Kd.C (Kd.int .u8) w0 A l.length l) (hc : l.length ≤ c) (hs : l.length ≤ 1000000) (hb : isBytes l) {code : Int} (hcd : 0 ≤ code ∧ code < 256) (hk : ¬ isCode code) :
    Calls Try.prog 13 #[.int .i64 1, .int .u8 code, .slice A l.length c] w0 fun en w' => ∃ cx, en = .returned (.tuple #[.agg cx, .int .i64 4]) ∧ IsMsg w' cx zeroM ∧ Below w0.heap.size w0 w' := by
  clear hr hc hs hb
  have H := Aside0.mk (Held.start w0)
  have HKB := Aside0.mk hcd
  clear hcd
  have b7 : (code == 7) = false := beq_eq_false_iff_ne.2 (fun e => hk (by unfold isCode; omega))
  have c7 : (code != 7) = true := by rw [bne, b7]; rfl
  have b8 : (code == 8) = false := beq_eq_false_iff_ne.2 (fun e => hk (by unfold isCode; omega))
  have c8 : (code != 8) = true := by rw [bne, b8]; rfl
  have b11 : (code == 11) = false := beq_eq_false_iff_ne.2 (fun e => hk (by unfold isCode; omega))
  have c11 : (code != 11) = true := by rw [bne, b11]; rfl
  have b12 : (code == 12) = false := beq_eq_false_iff_ne.2 (fun e => hk (by unfold isCode; omega))
  have c12 : (code != 12) = true := by rw [bne, b12]; rfl
  have b17 : (code == 17) = false := beq_eq_false_iff_ne.2 (fun e => hk (by unfold isCode; omega))
  have c17 : (code != 17) = true := by rw [bne, b17]; rfl
  clear hk
  go_enter Try.func13, Try.ntmps13
  go_wp2_with (first | ((with_reducible refine gate_dst (N := 6) rfl ?_); refine ev_alloc rfl rfl ?_; intro g w1 hg_ h1_ h2_; have n0_ := Aside0.mk (H.out.new hg_ h1_ h2_); clear H; have H := n0_; clear n0_; clear h1_ h2_ hg_) | ((with_reducible refine gate_dst (N := 40) rfl ?_); refine ev_build (zeroC) rfl (by go_simp; first | rfl | done) ?_; intro cx hcx_; have M := Aside0.mk (show ∀ W, IsMsg W cx _ from fun W => by rw [hcx_]; exact zero_is W); clear hcx_) | ((with_reducible refine gate_op (u := .store 30 (.tmp 6) (.tmp 40)) rfl ?_); refine ev_store rfl rfl rfl rfl H.out (i := 0) rfl (rfl) (M.out w0) ?_; intro w2 h3_ h4_; have n0_ := Aside0.mk (h3_); clear H; have H := n0_; clear n0_; clear h3_ h4_))
  refine bodyPost_ret (results_ct rfl _ _ g 30 cx (0, 0) _ rfl (H.out.at 0 rfl) Try.underlying30 rfl (msg_info ((M.out w0).size))) rfl (⟨cx, rfl, M.out _, H.out.b⟩)
def rparse10.T38 : Bool × List (List Nat × List Nat) := (true, [([], []), ([], []), ([1], [1]), ([2], [2]), ([3], [3]), ([0, 0], [0]), ([4, 5, 0, 1, 2, 3, 4, 5], [4])])
def rparse10.B38 : List Nat := [0, 0, 2, 6, 14, 1, 63]
theorem rparse10.tab38 : rtab .any (opsOf Try.f13 38) = rparse10.T38 := by kernel_rfl
theorem rparse10.bits38 : waitsOk rparse10.T38.2 rparse10.B38 = true := by kernel_rfl
theorem parse_0_7 {A : Option Addr} {c : Nat} {l : List Int} {w0 : World} (hr : Kd.C (Kd.int .u8) w0 A l.length l) (hc : l.length ≤ c) (hs : l.length ≤ 1000000) (hb : isBytes l) :
    Calls Try.prog 13 #[.int .i64 0, .int .u8 7, .slice A l.length c] w0 fun en w' => ∃ cx, en = .returned (.tuple #[.agg cx, .int .i64 (rparse 0 7 l).2]) ∧ IsMsg w' cx (rparse 0 7 l).1 ∧ Below w0.heap.size w0 w' := by
  have HR := Aside0.mk hr
  have HC := Aside0.mk hc
  have HS := Aside0.mk hs
  have HBB := Aside0.mk hb
  clear hr hc hs hb
  go_enter Try.func13, Try.ntmps13
  go_upto_region 5 with (first | ((with_reducible refine gate_dst (N := 6) rfl ?_); refine ev_alloc rfl rfl ?_; intro gr w1 hg_ h1_ h2_; have HG_ := Aside0.mk hg_; have H1 := Aside0.mk h1_; have H2 := Aside0.mk h2_; clear hg_ h1_ h2_))
  go_upto_region 6 with (first | ((with_reducible refine gate_dst (N := 43) rfl ?_); refine QS.ev_cur rfl rfl rfl ?_; intro g w2 q1_ q2_; have HP := Aside0.mk (QS.Nw.first HR.out HC.out HS.out HBB.out HG_.out H1.out H2.out q1_ q2_); clear q1_ q2_ H1 H2 HG_))
  obtain ⟨c0, e_⟩ : ∃ z, z = (⟨l, false, 0⟩ : Cu) := ⟨_, rfl⟩
  rw [← e_] at HP
  have Ec0 := Aside0.mk e_
  clear e_
  go_upto_region 10 with (first | ((with_reducible refine gate_dst (N := 45) rfl ?_); refine ev_build ((zeroC.setIfInBounds 0 (.int .u8 (7)))) rfl (by go_simp; first | rfl | done) ?_; intro cx hcx_; have M := Aside0.mk (show ∀ W, IsMsg W cx _ from fun W => by rw [hcx_]; exact (fun W => set_code (zero_is W) (v := 7) (by decide)) W); have NL := Aside0.mk (show NilL cx by rw [hcx_]; exact (QS.zero_nil.set (by decide))); clear hcx_) | ((with_reducible refine gate_dst (N := 9) rfl ?_); refine ev_var (y := .tmp 45) rfl rfl rfl rfl rfl (M.out w0) rfl rfl ?_; intro gm w4 hg_ h1_ hb_; have hp_ := QS.Nw.new HP.out hg_ h1_ hb_ M.out NL.out; clear h1_ hb_ hg_; have n0_ := Aside0.mk hp_; clear HP hp_; have HP := n0_; clear n0_))
  clear HR HC HS HBB M NL
  obtain ⟨m0, hm0⟩ : ∃ z, z = ({ zeroM with code := 7 } : Msg) := ⟨_, rfl⟩
  replace HP : Aside0 (QS.St w0 gr g gm w4 c0 { zeroM with code := 7 }) := HP
  rw [← hm0] at HP
  have HM0 := Aside0.mk hm0
  have HMC := Aside0.mk (show m0.code = 7 by rw [hm0])
  clear hm0
  go_upto_region 36 with (fail)
  have eq_ : rbodyR 0 m0 c0 = (c0, m0) := by
    unfold rbodyR
    rw [if_neg (by have := HMC.out; omega), if_neg (by decide)]
    rfl
  obtain ⟨cb, e_⟩ : ∃ z, z = rbodyR 0 m0 c0 := ⟨_, rfl⟩
  have EBD := Aside0.mk e_
  rw [eq_] at e_
  obtain ⟨c9, m9⟩ := cb
  obtain ⟨e1_, e2_⟩ := Prod.mk.inj e_
  rw [← e1_, ← e2_] at HP
  clear e_ e1_ e2_ eq_
  go_upto_region 37 with (first | (go_at_call 32; (with_reducible refine (QS.St.fin HP.out).mono ?_); rintro en x61 ⟨rfl, hp_⟩; obtain ⟨c10, ec_⟩ : ∃ z, z = c9.fin := ⟨_, rfl⟩; rw [← ec_] at hp_; have Ec10 := Aside0.mk ec_; clear ec_; have n0_ := Aside0.mk hp_; clear HP hp_; have HP := n0_; clear n0_))
  have he1 : rparse 0 7 l = if c10.e ≠ 0 then (zeroM, c10.e) else (m9, 0) := by
    have e2 : rbodyR 0 m0 (cu l) = (c9, m9) := by rw [EBD.out, Ec0.out]; rfl
    unfold rparse
    rw [if_neg (by decide), if_neg (by decide), ← HM0.out, e2, Ec10.out]
  obtain ⟨v0, v1, v2, hbk⟩ := QS.St.blk HP.out
  have ke := (RCur.cells4 hbk).1.2.2.2
  have HBK := Aside0.mk hbk
  have HNE := Aside0.mk HP.out.h2.2.1
  clear hbk
  by_cases h9 : c10.e = 0
  · have ex_ : rparse 0 7 l = (m9, 0) := by rw [he1, if_neg (fun h => h h9)]
    have EX := Aside0.mk ex_
    have g1 : (c10.e != 0) = false := by rw [h9]; rfl
    have g2 : (c10.e == 0) = true := by rw [h9]; rfl
    clear h9 ex_ he1
    obtain ⟨cx, h_, hz_, hm_⟩ := QS.St.held2 HP.out
    have H := Aside0.mk h_
    have HZ := Aside0.mk hz_
    have HM := Aside0.mk hm_
    have HB := Aside0.mk HP.out.b
    clear h_ hz_ hm_ HP
    go_wp2_with (first | ((with_reducible refine gate_dst (N := 196) rfl ?_); refine ev_load (x := .tmp 9) rfl rfl rfl H.out (i := 1) rfl (HZ.out) ?_) | ((with_reducible refine gate_op (u := .store 30 (.tmp 6) (.tmp 196)) rfl ?_); refine ev_store rfl rfl rfl rfl H.out (i := 0) rfl rfl (HM.out _ ⟨rfl, rfl, rfl, Kept.refl _ _⟩) ?_; intro x91 h3_ h4_; have HE := Aside0.mk (HM.out _ h4_); clear h4_; have n0_ := Aside0.mk (h3_); clear H; have H := n0_; clear n0_; clear h3_))
    refine bodyPost_ret (results_ct rfl _ _ gr 30 _ (0, 0) _ rfl (H.out.at 0 rfl) Try.underlying30 rfl (msg_info (HZ.out))) rfl (by rw [EX.out]; exact ⟨_, rfl, HE.out, H.out.b⟩)
  · have ex_ : rparse 0 7 l = (zeroM, c10.e) := by rw [he1, if_pos h9]
    have EX := Aside0.mk ex_
    have g1 : (c10.e != 0) = true := by simpa using h9
    have g2 : (c10.e == 0) = false := by simpa using h9
    clear h9 ex_ he1
    have H := Aside0.mk (QS.St.held HP.out)
    clear HP
    go_upto_region 38 with (fail)
    clear ke
    refine start_ (n := 7) (S := fun w' => w'.cell? ⟨g, 3, none⟩ = some (.int .i64 c10.e) ∧ Aside0 (Held w0 [(gr, zeroC)] w')) (ds := []) (bm 7 0) (by as_aux_lemma => kernel_rfl) rfl (by as_aux_lemma => kernel_rfl) ⟨((RCur.cells4 (blk_drew HBK.out)).1.2.2.2), (Aside0.mk H.out.drew)⟩ (fun hHeld => ?_)
    refine with_tabW rparse10.tab38 rparse10.bits38 (fun HT_ HW_ => ?_)
    refine pure_ (i := 0) (N := some 191) (v := ?_) (a' := ?_) (bm 7 1) rfl rfl (any_of HT_.out (by as_aux_lemma => kernel_rfl)) (fun _ _ _ h => h) (Or.inl ⟨by rfl, ?_⟩) ?_ ?_
    rotate_left
    · intro w'
      go_simp
      with_reducible rfl
    rotate_left
    · simp only [Act.put, List.setIfInBounds_toArray, List.set_cons_zero, List.set_cons_succ, i64_w, i32_w]
      rfl
    refine pure_ (i := 1) (N := some 192) (v := ?_) (a' := ?_) (bm 7 3) rfl rfl (any_of HT_.out (by as_aux_lemma => kernel_rfl)) (fun _ _ _ h => h) (Or.inl ⟨by rfl, ?_⟩) ?_ ?_
    rotate_left
    · intro w'
      go_simp
      with_reducible rfl
    rotate_left
    · simp only [Act.put, List.setIfInBounds_toArray, List.set_cons_zero, List.set_cons_succ, i64_w, i32_w]
      rfl
    refine pure_ (i := 2) (N := some 193) (v := ?_) (a' := ?_) (bm 7 7) rfl rfl (any_of HT_.out (by as_aux_lemma => kernel_rfl)) (fun _ _ _ h => h) (Or.inl ⟨by rfl, ?_⟩) ?_ ?_
    rotate_left
    · intro w'
      go_simp
      with_reducible rfl
    rotate_left
    · simp only [Act.put, List.setIfInBounds_toArray, List.set_cons_zero, List.set_cons_succ, i64_w, i32_w]
      rfl
    refine pure_ (i := 3) (N := some 194) (v := ?_) (a' := ?_) (bm 7 15) rfl rfl (any_of HT_.out (by as_aux_lemma => kernel_rfl)) (fun _ _ _ h => h) (Or.inl ⟨by rfl, ?_⟩) ?_ ?_
    rotate_left
    · intro w'
      go_simp
      with_reducible rfl
    rotate_left
    · simp only [Act.put, List.setIfInBounds_toArray, List.set_cons_zero, List.set_cons_succ, i64_w, i32_w]
      rfl
    refine take_ (i := 4) (N := some 195) (v := ?_) (a' := ?_) (bm 7 31) rfl rfl (take_ofW HT_.out HW_.out (by as_aux_lemma => kernel_rfl)) (fun _ _ _ h => h) (Or.inl ⟨by rfl, ?_⟩) hHeld ?_ ?_
    rotate_left
    · rintro w' ⟨s0, s1⟩
      go_simp
      with_reducible rfl
    rotate_left
    · simp only [Act.put, List.setIfInBounds_toArray, List.set_cons_zero, List.set_cons_succ, i64_w, i32_w]
      rfl
    refine one_ (i := 5) (N := none) (bm 7 63) rfl rfl (one_of HT_.out (by as_aux_lemma => kernel_rfl)) (by as_aux_lemma => decide) (fun K hK => ?_)
    have Hd_ := Aside0.mk H.out.drew
    clear H
    have H := Hd_
    clear Hd_
    refine store_ (x := .tmp 6) (y := .tmp 191) (by rfl) rfl rfl rfl rfl H.out (i := 0) rfl (rfl) (zero_is w0) ?_
    intro x97 h3_ h4_
    have ke3 := (RCur.cells4 (blk_kept (blk_drew HBK.out) h4_.kept (fun e => HNE.out e.symm))).1.2.2.2
    have n0_ := Aside0.mk (h3_); clear H; have H := n0_; clear n0_; clear h3_ h4_
    refine hK.out _ _ ⟨ke3, H⟩ (fun hHeld => ?_)
    clear hK K
    refine pure_ (i := 6) (N := some 7) (v := ?_) (a' := ?_) (bm 7 127) rfl rfl (any_of HT_.out (by as_aux_lemma => kernel_rfl)) (fun _ _ _ h => h) (Or.inl ⟨by rfl, ?_⟩) ?_ ?_
    rotate_left
    · intro w'
      go_simp
      with_reducible rfl
    rotate_left
    · simp only [Act.put, List.setIfInBounds_toArray, List.set_cons_zero, List.set_cons_succ, i64_w, i32_w]
      rfl
    refine done_ (done_of HT_.out (by as_aux_lemma => kernel_rfl)) ?_
    go_wp2
    refine bodyPost_ret (results_ct rfl _ _ gr 30 _ (0, 0) _ rfl (H.out.at 0 rfl) Try.underlying30 rfl (msg_info (rfl))) rfl (by rw [EX.out]; exact ⟨_, rfl, zero_is _, H.out.b⟩)
theorem parse_0_8_e {A : Option Addr} {c : Nat} {l : List Int} {w0 : World} (hr : Kd.C (Kd.int .u8) w0 A l.length l) (hc : l.length ≤ c) (hs : l.length ≤ 1000000) (hb : isBytes l) (hz : (⟨l, false, 0⟩ : Cu).wordV = 0) :
    Calls Try.prog 13 #[.int .i64 0, .int .u8 8, .slice A l.length c] w0 fun en w' => ∃ cx, en = .returned (.tuple #[.agg cx, .int .i64 (rparse 0 8 l).2]) ∧ IsMsg w' cx (rparse 0 8 l).1 ∧ Below w0.heap.size w0 w' := by
  have HZ := Aside0.mk hz
  clear hz
  have HR := Aside0.mk hr
  have HC := Aside0.mk hc
  have HS := Aside0.mk hs
  have HBB := Aside0.mk hb
  clear hr hc hs hb
  go_enter Try.func13, Try.ntmps13
  go_upto_region 5 with (first | ((with_reducible refine gate_dst (N := 6) rfl ?_); refine ev_alloc rfl rfl ?_; intro gr w1 hg_ h1_ h2_; have HG_ := Aside0.mk hg_; have H1 := Aside0.mk h1_; have H2 := Aside0.mk h2_; clear hg_ h1_ h2_))
  go_upto_region 6 with (first | ((with_reducible refine gate_dst (N := 43) rfl ?_); refine QS.ev_cur rfl rfl rfl ?_; intro g w2 q1_ q2_; have HP := Aside0.mk (QS.Nw.first HR.out HC.out HS.out HBB.out HG_.out H1.out H2.out q1_ q2_); clear q1_ q2_ H1 H2 HG_))
  obtain ⟨c0, e_⟩ : ∃ z, z = (⟨l, false, 0⟩ : Cu) := ⟨_, rfl⟩
  rw [← e_] at HP
  have Ec0 := Aside0.mk e_
  clear e_
  go_upto_region 10 with (first | ((with_reducible refine gate_dst (N := 45) rfl ?_); refine ev_build ((zeroC.setIfInBounds 0 (.int .u8 (8)))) rfl (by go_simp; first | rfl | done) ?_; intro cx hcx_; have M := Aside0.mk (show ∀ W, IsMsg W cx _ from fun W => by rw [hcx_]; exact (fun W => set_code (zero_is W) (v := 8) (by decide)) W); have NL := Aside0.mk (show NilL cx by rw [hcx_]; exact (QS.zero_nil.set (by decide))); clear hcx_) | ((with_reducible refine gate_dst (N := 9) rfl ?_); refine ev_var (y := .tmp 45) rfl rfl rfl rfl rfl (M.out w0) rfl rfl ?_; intro gm w4 hg_ h1_ hb_; have hp_ := QS.Nw.new HP.out hg_ h1_ hb_ M.out NL.out; clear h1_ hb_ hg_; have n0_ := Aside0.mk hp_; clear HP hp_; have HP := n0_; clear n0_))
  clear HR HC HS HBB M NL
  obtain ⟨m0, hm0⟩ : ∃ z, z = ({ zeroM with code := 8 } : Msg) := ⟨_, rfl⟩
  replace HP : Aside0 (QS.St w0 gr g gm w4 c0 { zeroM with code := 8 }) := HP
  rw [← hm0] at HP
  have HM0 := Aside0.mk hm0
  have HMC := Aside0.mk (show m0.code = 8 by rw [hm0])
  clear hm0
  go_upto_region 11 with (fail)
  go_upto_region 12 with (first | (go_at_call 25; obtain ⟨l0, h0⟩ := Cu.wordV_bd (QS.St.good HP.out); (with_reducible refine (QS.St.word HP.out).mono ?_); rintro en x1 ⟨rfl, hp_⟩; obtain ⟨c1, ec_⟩ : ∃ z, z = c0.wordS := ⟨_, rfl⟩; rw [← ec_] at hp_; have Ec1 := Aside0.mk ec_; clear ec_; obtain ⟨ksub, fsub⟩ := QS.St.at_sub hp_; have n0_ := Aside0.mk hp_; clear HP hp_; have HP := n0_; clear n0_))
  have hp_ := HP.out.put_sub ⟨l0, h0⟩
  obtain ⟨ksub, fsub⟩ := QS.St.at_sub hp_
  have n0_ := Aside0.mk hp_
  clear HP hp_
  have HP := n0_
  clear n0_
  go_upto_region 13 with (first | (go_at_call 19; (with_reducible refine (rsub_c ⟨l0, h0⟩ _).mono ?_); rintro en xs ⟨rfl, hb_⟩; have n0_ := Aside0.mk (HP.out.below hb_); clear HP hb_; have HP := n0_; clear n0_))
  clear ksub fsub
  obtain ⟨c2, e_⟩ : ∃ z, z = c1.need (subB c0.wordV && ((0 : Int) == 0 || c0.wordV != 4)) 8 := ⟨_, rfl⟩
  have Ec2 := Aside0.mk e_
  clear e_
  obtain ⟨ksub, fsub⟩ := QS.St.at_sub HP.out
  go_cut [10] from 67 to 82 (fun v10_ wx => Aside0 (QS.St w0 gr g gm wx c2 ({ m0 with sub := c0.wordV })))
  case first =>
    cases hs0_ : (subB c0.wordV) with
    | true =>
      cases hs1_ : (c0.wordV != 4) with
      | true =>
        have hs1a_ : (c0.wordV == 4) = false := by first | exact hs1_ | (rw [bne, hs1_]; rfl) | (have := hs1_; rw [bne] at this; simpa using this)
        have eb_ : (subB c0.wordV && ((0 : Int) == 0 || c0.wordV != 4)) = (true) := by first | (simp only [hs0_, hs1_]; first | rfl | (simp; done)) | (simp [hs0_, hs1_]; done) | (simp only [bne, hs0_, hs1_]; first | rfl | (simp; done))
        have EB_ := Aside0.mk eb_
        clear eb_
        go_wp2_with (first | (go_at_call 26; (with_reducible refine (QS.St.need HP.out (true) 8).mono ?_); rintro en x2 ⟨rfl, hp_⟩; have n0_ := Aside0.mk hp_; clear HP hp_; have HP := n0_; clear n0_))
        go_meet
        rw [Ec2.out, EB_.out]
        exact HP
      | false =>
        have hs1a_ : (c0.wordV == 4) = true := by first | exact hs1_ | (rw [bne, hs1_]; rfl) | (have := hs1_; rw [bne] at this; simpa using this)
        have eb_ : (subB c0.wordV && ((0 : Int) == 0 || c0.wordV != 4)) = (true) := by first | (simp only [hs0_, hs1_]; first | rfl | (simp; done)) | (simp [hs0_, hs1_]; done) | (simp only [bne, hs0_, hs1_]; first | rfl | (simp; done))
        have EB_ := Aside0.mk eb_
        clear eb_
        go_wp2_with (first | (go_at_call 26; (with_reducible refine (QS.St.need HP.out (true) 8).mono ?_); rintro en x2 ⟨rfl, hp_⟩; have n0_ := Aside0.mk hp_; clear HP hp_; have HP := n0_; clear n0_))
        go_meet
        rw [Ec2.out, EB_.out]
        exact HP
    | false =>
      have eb_ : (subB c0.wordV && ((0 : Int) == 0 || c0.wordV != 4)) = (false) := by first | (simp only [hs0_]; first | rfl | (simp; done)) | (simp [hs0_]; done) | (simp only [bne, hs0_]; first | rfl | (simp; done))
      have EB_ := Aside0.mk eb_
      clear eb_
      go_wp2_with (first | (go_at_call 26; (with_reducible refine (QS.St.need HP.out (false) 8).mono ?_); rintro en x2 ⟨rfl, hp_⟩; have n0_ := Aside0.mk hp_; clear HP hp_; have HP := n0_; clear n0_))
      go_meet
      rw [Ec2.out, EB_.out]
      exact HP
  case rest =>
  clear HP
  have HP := hcut
  clear hcut
  clear ksub fsub
  have hz_ : (c0.wordV == 0) = true := by rw [show c0.wordV = 0 by rw [Ec0.out]; exact HZ.out]; rfl
  obtain ⟨ksub, fsub⟩ := QS.St.at_sub HP.out
  go_upto_region 16 with (first | (go_at_call 27; (with_reducible refine (QS.St.left HP.out).mono ?_); rintro en x3 ⟨rfl, hp_⟩; have n0_ := Aside0.mk hp_; clear HP hp_; have HP := n0_; clear n0_))
  clear hz_ ksub fsub
  have wd : Int.tdiv (c2.xs.length : Int) 2 = (c2.xs.length : Int) / 2 := Int.tdiv_eq_ediv_of_nonneg (by omega)
  have wq := wrap64_id (x := (c2.xs.length : Int) / 2) (by omega) (by have := (QS.St.good HP.out).2.1; omega)
  obtain ⟨c3, e_⟩ : ∃ z, z = c2.need ((c2.xs.length : Int) % 2 == 0 && (decide (2 ≤ (c2.xs.length : Int)) && decide ((c2.xs.length : Int) ≤ 250))) 5 := ⟨_, rfl⟩
  have Ec3 := Aside0.mk e_
  clear e_
  go_cut [] from 87 to 100 (fun wx => Aside0 (QS.St w0 gr g gm wx c3 ({ m0 with sub := c0.wordV })))
  case first =>
    cases hs0_ : ((c2.xs.length : Int) % 2 == 0) with
    | true =>
      have hs0a_ : ((c2.xs.length : Int) % 2 != 0) = false := by first | exact hs0_ | (rw [bne, hs0_]; rfl) | (have := hs0_; rw [bne] at this; simpa using this)
      have hs0t_ : (Int.tmod (c2.xs.length : Int) 2 == 0) = true := by rw [Int.tmod_eq_emod_of_nonneg (by omega)]; exact hs0_
      cases hs1_ : (decide (2 ≤ (c2.xs.length : Int))) with
      | true =>
        have hs1a_ : (decide ((c2.xs.length : Int) ≥ 2)) = true := by first | exact hs1_ | (rw [bne, hs1_]; rfl) | (have := hs1_; rw [bne] at this; simpa using this)
        have eb_ : ((c2.xs.length : Int) % 2 == 0 && (decide (2 ≤ (c2.xs.length : Int)) && decide ((c2.xs.length : Int) ≤ 250))) = (decide ((c2.xs.length : Int) ≤ 250)) := by first | (simp only [hs0_, hs1_]; first | rfl | (simp; done)) | (simp [hs0_, hs1_]; done) | (simp only [bne, hs0_, hs1_]; first | rfl | (simp; done))
        have EB_ := Aside0.mk eb_
        clear eb_
        go_wp2_with (first | (go_at_call 26; (with_reducible refine (QS.St.need HP.out (decide ((c2.xs.length : Int) ≤ 250)) 5).mono ?_); rintro en x4 ⟨rfl, hp_⟩; have n0_ := Aside0.mk hp_; clear HP hp_; have HP := n0_; clear n0_))
        go_meet
        rw [Ec3.out, EB_.out]
        exact HP
      | false =>
        have hs1a_ : (decide ((c2.xs.length : Int) ≥ 2)) = false := by first | exact hs1_ | (rw [bne, hs1_]; rfl) | (have := hs1_; rw [bne] at this; simpa using this)
        have eb_ : ((c2.xs.length : Int) % 2 == 0 && (decide (2 ≤ (c2.xs.length : Int)) && decide ((c2.xs.length : Int) ≤ 250))) = (false) := by first | (simp only [hs0_, hs1_]; first | rfl | (simp; done)) | (simp [hs0_, hs1_]; done) | (simp only [bne, hs0_, hs1_]; first | rfl | (simp; done))
        have EB_ := Aside0.mk eb_
        clear eb_
        go_wp2_with (first | (go_at_call 26; (with_reducible refine (QS.St.need HP.out (false) 5).mono ?_); rintro en x4 ⟨rfl, hp_⟩; have n0_ := Aside0.mk hp_; clear HP hp_; have HP := n0_; clear n0_))
        go_meet
        rw [Ec3.out, EB_.out]
        exact HP
    | false =>
      have hs0a_ : ((c2.xs.length : Int) % 2 != 0) = true := by first | exact hs0_ | (rw [bne, hs0_]; rfl) | (have := hs0_; rw [bne] at this; simpa using this)
      have hs0t_ : (Int.tmod (c2.xs.length : Int) 2 == 0) = false := by rw [Int.tmod_eq_emod_of_nonneg (by omega)]; exact hs0_
      have eb_ : ((c2.xs.length : Int) % 2 == 0 && (decide (2 ≤ (c2.xs.length : Int)) && decide ((c2.xs.length : Int) ≤ 250))) = (false) := by first | (simp only [hs0_]; first | rfl | (simp; done)) | (simp [hs0_]; done) | (simp only [bne, hs0_]; first | rfl | (simp; done))
      have EB_ := Aside0.mk eb_
      clear eb_
      go_wp2_with (first | (go_at_call 26; (with_reducible refine (QS.St.need HP.out (false) 5).mono ?_); rintro en x4 ⟨rfl, hp_⟩; have n0_ := Aside0.mk hp_; clear HP hp_; have HP := n0_; clear n0_))
      go_meet
      rw [Ec3.out, EB_.out]
      exact HP
  case rest =>
  clear HP
  have HP := hcut
  clear hcut
  have HBY := Aside0.mk (Cu.wordsV_bd (QS.St.good HP.out) ((c2.xs.length : Int) / 2))
  go_upto_region 36 with (first | (go_at_call 28; (with_reducible refine (QS.St.words HP.out ((c2.xs.length : Int) / 2)).mono ?_); rintro en x5 ⟨A5, n5, rfl, hz_, hr_, hp_⟩; obtain ⟨c4, ec_⟩ : ∃ z, z = c3.wordsS ((c2.xs.length : Int) / 2) := ⟨_, rfl⟩; rw [← ec_] at hp_; have Ec4 := Aside0.mk ec_; clear ec_; have R5 := Aside0.mk hr_; have R5z := Aside0.mk hz_; clear hr_ hz_; have n0_ := Aside0.mk hp_; clear HP hp_; have HP := n0_; clear n0_; obtain ⟨Aw, nw, kw, fw⟩ := QS.St.at_words HP.out))
  have hp_ := HP.out.put_words R5z.out HBY.out R5.out
  have n0_ := Aside0.mk hp_
  clear HP hp_
  have HP := n0_
  clear n0_
  have eq_ : rbodyR 0 m0 c0 = (c4, { m0 with sub := c0.wordV, words := c3.wordsV ((c2.xs.length : Int) / 2) }) := by
    have e1 : rbodyR 0 m0 c0 = echoR { m0 with sub := c0.wordV } c2 := by
      unfold rbodyR
      rw [if_pos HMC.out, Ec2.out, Ec1.out]
      show (if c0.wordV = 0 then (_ : Cu → Cu × Msg) else _) _ = _
      rw [if_pos (by rw [Ec0.out]; exact HZ.out)]
      rfl
    rw [e1, Ec4.out, Ec3.out]
    rfl
  obtain ⟨cb, e_⟩ : ∃ z, z = rbodyR 0 m0 c0 := ⟨_, rfl⟩
  have EBD := Aside0.mk e_
  rw [eq_] at e_
  obtain ⟨c9, m9⟩ := cb
  obtain ⟨e1_, e2_⟩ := Prod.mk.inj e_
  rw [← e1_, ← e2_] at HP
  clear e_ e1_ e2_ eq_
  go_upto_region 37 with (first | (go_at_call 32; (with_reducible refine (QS.St.fin HP.out).mono ?_); rintro en x61 ⟨rfl, hp_⟩; obtain ⟨c10, ec_⟩ : ∃ z, z = c9.fin := ⟨_, rfl⟩; rw [← ec_] at hp_; have Ec10 := Aside0.mk ec_; clear ec_; have n0_ := Aside0.mk hp_; clear HP hp_; have HP := n0_; clear n0_))
  have he1 : rparse 0 8 l = if c10.e ≠ 0 then (zeroM, c10.e) else (m9, 0) := by
    have e2 : rbodyR 0 m0 (cu l) = (c9, m9) := by rw [EBD.out, Ec0.out]; rfl
    unfold rparse
    rw [if_neg (by decide), if_neg (by decide), ← HM0.out, e2, Ec10.out]
  obtain ⟨v0, v1, v2, hbk⟩ := QS.St.blk HP.out
  have ke := (RCur.cells4 hbk).1.2.2.2
  have HBK := Aside0.mk hbk
  have HNE := Aside0.mk HP.out.h2.2.1
  clear hbk
  by_cases h9 : c10.e = 0
  · have ex_ : rparse 0 8 l = (m9, 0) := by rw [he1, if_neg (fun h => h h9)]
    have EX := Aside0.mk ex_
    have g1 : (c10.e != 0) = false := by rw [h9]; rfl
    have g2 : (c10.e == 0) = true := by rw [h9]; rfl
    clear h9 ex_ he1
    obtain ⟨cx, h_, hz_, hm_⟩ := QS.St.held2 HP.out
    have H := Aside0.mk h_
    have HZ := Aside0.mk hz_
    have HM := Aside0.mk hm_
    have HB := Aside0.mk HP.out.b
    clear h_ hz_ hm_ HP
    go_wp2_with (first | ((with_reducible refine gate_dst (N := 196) rfl ?_); refine ev_load (x := .tmp 9) rfl rfl rfl H.out (i := 1) rfl (HZ.out) ?_) | ((with_reducible refine gate_op (u := .store 30 (.tmp 6) (.tmp 196)) rfl ?_); refine ev_store rfl rfl rfl rfl H.out (i := 0) rfl rfl (HM.out _ ⟨rfl, rfl, rfl, Kept.refl _ _⟩) ?_; intro x91 h3_ h4_; have HE := Aside0.mk (HM.out _ h4_); clear h4_; have n0_ := Aside0.mk (h3_); clear H; have H := n0_; clear n0_; clear h3_))
    refine bodyPost_ret (results_ct rfl _ _ gr 30 _ (0, 0) _ rfl (H.out.at 0 rfl) Try.underlying30 rfl (msg_info (HZ.out))) rfl (by rw [EX.out]; exact ⟨_, rfl, HE.out, H.out.b⟩)
  · have ex_ : rparse 0 8 l = (zeroM, c10.e) := by rw [he1, if_pos h9]
    have EX := Aside0.mk ex_
    have g1 : (c10.e != 0) = true := by simpa using h9
    have g2 : (c10.e == 0) = false := by simpa using h9
    clear h9 ex_ he1
    have H := Aside0.mk (QS.St.held HP.out)
    clear HP
    go_upto_region 38 with (fail)
    clear ke
    refine start_ (n := 7) (S := fun w' => w'.cell? ⟨g, 3, none⟩ = some (.int .i64 c10.e) ∧ Aside0 (Held w0 [(gr, zeroC)] w')) (ds := []) (bm 7 0) (by as_aux_lemma => kernel_rfl) rfl (by as_aux_lemma => kernel_rfl) ⟨((RCur.cells4 (blk_drew HBK.out)).1.2.2.2), (Aside0.mk H.out.drew)⟩ (fun hHeld => ?_)
    refine with_tabW rparse10.tab38 rparse10.bits38 (fun HT_ HW_ => ?_)
    refine pure_ (i := 0) (N := some 191) (v := ?_) (a' := ?_) (bm 7 1) rfl rfl (any_of HT_.out (by as_aux_lemma => kernel_rfl)) (fun _ _ _ h => h) (Or.inl ⟨by rfl, ?_⟩) ?_ ?_
    rotate_left
    · intro w'
      go_simp
      with_reducible rfl
    rotate_left
    · simp only [Act.put, List.setIfInBounds_toArray, List.set_cons_zero, List.set_cons_succ, i64_w, i32_w]
      rfl
    refine pure_ (i := 1) (N := some 192) (v := ?_) (a' := ?_) (bm 7 3) rfl rfl (any_of HT_.out (by as_aux_lemma => kernel_rfl)) (fun _ _ _ h => h) (Or.inl ⟨by rfl, ?_⟩) ?_ ?_
    rotate_left
    · intro w'
      go_simp
      with_reducible rfl
    rotate_left
    · simp only [Act.put, List.setIfInBounds_toArray, List.set_cons_zero, List.set_cons_succ, i64_w, i32_w]
      rfl
    refine pure_ (i := 2) (N := some 193) (v := ?_) (a' := ?_) (bm 7 7) rfl rfl (any_of HT_.out (by as_aux_lemma => kernel_rfl)) (fun _ _ _ h => h) (Or.inl ⟨by rfl, ?_⟩) ?_ ?_
    rotate_left
    · intro w'
      go_simp
      with_reducible rfl
    rotate_left
    · simp only [Act.put, List.setIfInBounds_toArray, List.set_cons_zero, List.set_cons_succ, i64_w, i32_w]
      rfl
    refine pure_ (i := 3) (N := some 194) (v := ?_) (a' := ?_) (bm 7 15) rfl rfl (any_of HT_.out (by as_aux_lemma => kernel_rfl)) (fun _ _ _ h => h) (Or.inl ⟨by rfl, ?_⟩) ?_ ?_
    rotate_left
    · intro w'
      go_simp
      with_reducible rfl
    rotate_left
    · simp only [Act.put, List.setIfInBounds_toArray, List.set_cons_zero, List.set_cons_succ, i64_w, i32_w]
      rfl
    refine take_ (i := 4) (N := some 195) (v := ?_) (a' := ?_) (bm 7 31) rfl rfl (take_ofW HT_.out HW_.out (by as_aux_lemma => kernel_rfl)) (fun _ _ _ h => h) (Or.inl ⟨by rfl, ?_⟩) hHeld ?_ ?_
    rotate_left
    · rintro w' ⟨s0, s1⟩
      go_simp
      with_reducible rfl
    rotate_left
    · simp only [Act.put, List.setIfInBounds_toArray, List.set_cons_zero, List.set_cons_succ, i64_w, i32_w]
      rfl
    refine one_ (i := 5) (N := none) (bm 7 63) rfl rfl (one_of HT_.out (by as_aux_lemma => kernel_rfl)) (by as_aux_lemma => decide) (fun K hK => ?_)
    have Hd_ := Aside0.mk H.out.drew
    clear H
    have H := Hd_
    clear Hd_
    refine store_ (x := .tmp 6) (y := .tmp 191) (by rfl) rfl rfl rfl rfl H.out (i := 0) rfl (rfl) (zero_is w0) ?_
    intro x97 h3_ h4_
    have ke3 := (RCur.cells4 (blk_kept (blk_drew HBK.out) h4_.kept (fun e => HNE.out e.symm))).1.2.2.2
    have n0_ := Aside0.mk (h3_); clear H; have H := n0_; clear n0_; clear h3_ h4_
    refine hK.out _ _ ⟨ke3, H⟩ (fun hHeld => ?_)
    clear hK K
    refine pure_ (i := 6) (N := some 7) (v := ?_) (a' := ?_) (bm 7 127) rfl rfl (any_of HT_.out (by as_aux_lemma => kernel_rfl)) (fun _ _ _ h => h) (Or.inl ⟨by rfl, ?_⟩) ?_ ?_
    rotate_left
    · intro w'
      go_simp
      with_reducible rfl
    rotate_left
    · simp only [Act.put, List.setIfInBounds_toArray, List.set_cons_zero, List.set_cons_succ, i64_w, i32_w]
      rfl
    refine done_ (done_of HT_.out (by as_aux_lemma => kernel_rfl)) ?_
    go_wp2
    refine bodyPost_ret (results_ct rfl _ _ gr 30 _ (0, 0) _ rfl (H.out.at 0 rfl) Try.underlying30 rfl (msg_info (rfl))) rfl (by rw [EX.out]; exact ⟨_, rfl, zero_is _, H.out.b⟩)
theorem parse_0_8_n {A : Option Addr} {c : Nat} {l : List Int} {w0 : World} (hr : Kd.C (Kd.int .u8) w0 A l.length l) (hc : l.length ≤ c) (hs : l.length ≤ 1000000) (hb : isBytes l) (hz : (⟨l, false, 0⟩ : Cu).wordV ≠ 0) :
    Calls Try.prog 13 #[.int .i64 0, .int .u8 8, .slice A l.length c] w0 fun en w' => ∃ cx, en = .returned (.tuple #[.agg cx, .int .i64 (rparse 0 8 l).2]) ∧ IsMsg w' cx (rparse 0 8 l).1 ∧ Below w0.heap.size w0 w' := by
  have HZ := Aside0.mk hz
  clear hz
  have HR := Aside0.mk hr
  have HC := Aside0.mk hc
  have HS := Aside0.mk hs
  have HBB := Aside0.mk hb
  clear hr hc hs hb
  go_enter Try.func13, Try.ntmps13
  go_upto_region 5 with (first | ((with_reducible refine gate_dst (N := 6) rfl ?_); refine ev_alloc rfl rfl ?_; intro gr w1 hg_ h1_ h2_; have HG_ := Aside0.mk hg_; have H1 := Aside0.mk h1_; have H2 := Aside0.mk h2_; clear hg_ h1_ h2_))
  go_upto_region 6 with (first | ((with_reducible refine gate_dst (N := 43) rfl ?_); refine QS.ev_cur rfl rfl rfl ?_; intro g w2 q1_ q2_; have HP := Aside0.mk (QS.Nw.first HR.out HC.out HS.out HBB.out HG_.out H1.out H2.out q1_ q2_); clear q1_ q2_ H1 H2 HG_))
  obtain ⟨c0, e_⟩ : ∃ z, z = (⟨l, false, 0⟩ : Cu) := ⟨_, rfl⟩
  rw [← e_] at HP
  have Ec0 := Aside0.mk e_
  clear e_
  go_upto_region 10 with (first | ((with_reducible refine gate_dst (N := 45) rfl ?_); refine ev_build ((zeroC.setIfInBounds 0 (.int .u8 (8)))) rfl (by go_simp; first | rfl | done) ?_; intro cx hcx_; have M := Aside0.mk (show ∀ W, IsMsg W cx _ from fun W => by rw [hcx_]; exact (fun W => set_code (zero_is W) (v := 8) (by decide)) W); have NL := Aside0.mk (show NilL cx by rw [hcx_]; exact (QS.zero_nil.set (by decide))); clear hcx_) | ((with_reducible refine gate_dst (N := 9) rfl ?_); refine ev_var (y := .tmp 45) rfl rfl rfl rfl rfl (M.out w0) rfl rfl ?_; intro gm w4 hg_ h1_ hb_; have hp_ := QS.Nw.new HP.out hg_ h1_ hb_ M.out NL.out; clear h1_ hb_ hg_; have n0_ := Aside0.mk hp_; clear HP hp_; have HP := n0_; clear n0_))
  clear HR HC HS HBB M NL
  obtain ⟨m0, hm0⟩ : ∃ z, z = ({ zeroM with code := 8 } : Msg) := ⟨_, rfl⟩
  replace HP : Aside0 (QS.St w0 gr g gm w4 c0 { zeroM with code := 8 }) := HP
  rw [← hm0] at HP
  have HM0 := Aside0.mk hm0
  have HMC := Aside0.mk (show m0.code = 8 by rw [hm0])
  clear hm0
  go_upto_region 11 with (fail)
  go_upto_region 12 with (first | (go_at_call 25; obtain ⟨l0, h0⟩ := Cu.wordV_bd (QS.St.good HP.out); (with_reducible refine (QS.St.word HP.out).mono ?_); rintro en x1 ⟨rfl, hp_⟩; obtain ⟨c1, ec_⟩ : ∃ z, z = c0.wordS := ⟨_, rfl⟩; rw [← ec_] at hp_; have Ec1 := Aside0.mk ec_; clear ec_; obtain ⟨ksub, fsub⟩ := QS.St.at_sub hp_; have n0_ := Aside0.mk hp_; clear HP hp_; have HP := n0_; clear n0_))
  have hp_ := HP.out.put_sub ⟨l0, h0⟩
  obtain ⟨ksub, fsub⟩ := QS.St.at_sub hp_
  have n0_ := Aside0.mk hp_
  clear HP hp_
  have HP := n0_
  clear n0_
  go_upto_region 13 with (first | (go_at_call 19; (with_reducible refine (rsub_c ⟨l0, h0⟩ _).mono ?_); rintro en xs ⟨rfl, hb_⟩; have n0_ := Aside0.mk (HP.out.below hb_); clear HP hb_; have HP := n0_; clear n0_))
  clear ksub fsub
  obtain ⟨c2, e_⟩ : ∃ z, z = c1.need (subB c0.wordV && ((0 : Int) == 0 || c0.wordV != 4)) 8 := ⟨_, rfl⟩
  have Ec2 := Aside0.mk e_
  clear e_
  obtain ⟨ksub, fsub⟩ := QS.St.at_sub HP.out
  go_cut [10] from 67 to 82 (fun v10_ wx => Aside0 (QS.St w0 gr g gm wx c2 ({ m0 with sub := c0.wordV })))
  case first =>
    cases hs0_ : (subB c0.wordV) with
    | true =>
      cases hs1_ : (c0.wordV != 4) with
      | true =>
        have hs1a_ : (c0.wordV == 4) = false := by first | exact hs1_ | (rw [bne, hs1_]; rfl) | (have := hs1_; rw [bne] at this; simpa using this)
        have eb_ : (subB c0.wordV && ((0 : Int) == 0 || c0.wordV != 4)) = (true) := by first | (simp only [hs0_, hs1_]; first | rfl | (simp; done)) | (simp [hs0_, hs1_]; done) | (simp only [bne, hs0_, hs1_]; first | rfl | (simp; done))
        have EB_ := Aside0.mk eb_
        clear eb_
        go_wp2_with (first | (go_at_call 26; (with_reducible refine (QS.St.need HP.out (true) 8).mono ?_); rintro en x2 ⟨rfl, hp_⟩; have n0_ := Aside0.mk hp_; clear HP hp_; have HP := n0_; clear n0_))
        go_meet
        rw [Ec2.out, EB_.out]
        exact HP
      | false =>
        have hs1a_ : (c0.wordV == 4) = true := by first | exact hs1_ | (rw [bne, hs1_]; rfl) | (have := hs1_; rw [bne] at this; simpa using this)
        have eb_ : (subB c0.wordV && ((0 : Int) == 0 || c0.wordV != 4)) = (true) := by first | (simp only [hs0_, hs1_]; first | rfl | (simp; done)) | (simp [hs0_, hs1_]; done) | (simp only [bne, hs0_, hs1_]; first | rfl | (simp; done))
        have EB_ := Aside0.mk eb_
        clear eb_
        go_wp2_with (first | (go_at_call 26; (with_reducible refine (QS.St.need HP.out (true) 8).mono ?_); rintro en x2 ⟨rfl, hp_⟩; have n0_ := Aside0.mk hp_; clear HP hp_; have HP := n0_; clear n0_))
        go_meet
        rw [Ec2.out, EB_.out]
        exact HP
    | false =>
      have eb_ : (subB c0.wordV && ((0 : Int) == 0 || c0.wordV != 4)) = (false) := by first | (simp only [hs0_]; first | rfl | (simp; done)) | (simp [hs0_]; done) | (simp only [bne, hs0_]; first | rfl | (simp; done))
      have EB_ := Aside0.mk eb_
      clear eb_
      go_wp2_with (first | (go_at_call 26; (with_reducible refine (QS.St.need HP.out (false) 8).mono ?_); rintro en x2 ⟨rfl, hp_⟩; have n0_ := Aside0.mk hp_; clear HP hp_; have HP := n0_; clear n0_))
      go_meet
      rw [Ec2.out, EB_.out]
      exact HP
  case rest =>
  clear HP
  have HP := hcut
  clear hcut
  clear ksub fsub
  have hz_ : (c0.wordV == 0) = false := by rw [Ec0.out]; simpa using HZ.out
  obtain ⟨ksub, fsub⟩ := QS.St.at_sub HP.out
  go_upto_region 19 with (first | (go_at_call 25; obtain ⟨l2, h2⟩ := Cu.wordV_bd (QS.St.good HP.out); (with_reducible refine (QS.St.word HP.out).mono ?_); rintro en x3 ⟨rfl, hp_⟩; obtain ⟨c3, ec_⟩ : ∃ z, z = c2.wordS := ⟨_, rfl⟩; rw [← ec_] at hp_; have Ec3 := Aside0.mk ec_; clear ec_; have n0_ := Aside0.mk hp_; clear HP hp_; have HP := n0_; clear n0_))
  clear hz_
  clear ksub fsub
  obtain ⟨ksub, fsub⟩ := QS.St.at_sub HP.out
  go_upto_region 20 with (first | (go_at_call 29; (with_reducible refine (rmay_c (.inl rfl) ⟨l0, h0⟩ ⟨l2, h2⟩ _).mono ?_); rintro en xm ⟨rfl, hb_⟩; have n0_ := Aside0.mk (HP.out.below hb_); clear HP hb_; have HP := n0_; clear n0_) | (go_at_call 26; (with_reducible refine (QS.St.need HP.out (mayB 0 c0.wordV c2.wordV) 6).mono ?_); rintro en x4 ⟨rfl, hp_⟩; obtain ⟨c4, ec_⟩ : ∃ z, z = c3.need (mayB 0 c0.wordV c2.wordV) 6 := ⟨_, rfl⟩; rw [← ec_] at hp_; have Ec4 := Aside0.mk ec_; clear ec_; have n0_ := Aside0.mk hp_; clear HP hp_; have HP := n0_; clear n0_))
  clear ksub fsub
  go_upto_region 36 with (first | ((with_reducible refine gate_dst (N := 115) rfl ?_); refine Com.ev_rlit .u16 [c2.wordV] 24 rfl rfl (by first | (go_simp; done) | (go_simp; rfl)) (by simp) ?_; intro v_ w9 hr_ hb_; have hl_ := lt3 HP.out; obtain ⟨A5, n5, ev_, hz_, hC_⟩ := row_kept (S := fun k => k = g ∨ k = gm ∨ k = gr) hr_ (fun k hk => by rcases hk with rfl | rfl | rfl <;> omega); subst ev_; have R5 := Aside0.mk hC_; have R5z := Aside0.mk hz_; have n0_ := Aside0.mk (HP.out.below hb_); clear HP hb_; have HP := n0_; clear n0_; clear hr_ hl_ hz_ hC_; obtain ⟨Aw, nw, kw, fw⟩ := QS.St.at_words HP.out))
  have hp_ := HP.out.put_words R5z.out (fun x hx => by have e_ := List.mem_singleton.1 hx; rw [e_]; exact ⟨l2, h2⟩) R5.out
  have n0_ := Aside0.mk hp_
  clear HP hp_
  have HP := n0_
  clear n0_
  replace HP : Aside0 (QS.St w0 gr g gm (w9.setCell ⟨gm, 12, none⟩ (.slice A5 1 n5)) c4 _) := HP
  have eq_ : rbodyR 0 m0 c0 = (c4, { m0 with sub := c0.wordV, words := [c2.wordV] }) := by
    have e1 : rbodyR 0 m0 c0 = wordR 0 c0.wordV m0 c2 := by
      unfold rbodyR
      rw [if_pos HMC.out, Ec2.out, Ec1.out]
      show (if c0.wordV = 0 then (_ : Cu → Cu × Msg) else _) _ = _
      rw [if_neg (by rw [Ec0.out]; exact HZ.out)]
      rfl
    rw [e1, Ec4.out, Ec3.out]
    rfl
  obtain ⟨cb, e_⟩ : ∃ z, z = rbodyR 0 m0 c0 := ⟨_, rfl⟩
  have EBD := Aside0.mk e_
  rw [eq_] at e_
  obtain ⟨c9, m9⟩ := cb
  obtain ⟨e1_, e2_⟩ := Prod.mk.inj e_
  rw [← e1_, ← e2_] at HP
  clear e_ e1_ e2_ eq_
  go_upto_region 37 with (first | (go_at_call 32; (with_reducible refine (QS.St.fin HP.out).mono ?_); rintro en x61 ⟨rfl, hp_⟩; obtain ⟨c10, ec_⟩ : ∃ z, z = c9.fin := ⟨_, rfl⟩; rw [← ec_] at hp_; have Ec10 := Aside0.mk ec_; clear ec_; have n0_ := Aside0.mk hp_; clear HP hp_; have HP := n0_; clear n0_))
  have he1 : rparse 0 8 l = if c10.e ≠ 0 then (zeroM, c10.e) else (m9, 0) := by
    have e2 : rbodyR 0 m0 (cu l) = (c9, m9) := by rw [EBD.out, Ec0.out]; rfl
    unfold rparse
    rw [if_neg (by decide), if_neg (by decide), ← HM0.out, e2, Ec10.out]
  obtain ⟨v0, v1, v2, hbk⟩ := QS.St.blk HP.out
  have ke := (RCur.cells4 hbk).1.2.2.2
  have HBK := Aside0.mk hbk
  have HNE := Aside0.mk HP.out.h2.2.1
  clear hbk
  by_cases h9 : c10.e = 0
  · have ex_ : rparse 0 8 l = (m9, 0) := by rw [he1, if_neg (fun h => h h9)]
    have EX := Aside0.mk ex_
    have g1 : (c10.e != 0) = false := by rw [h9]; rfl
    have g2 : (c10.e == 0) = true := by rw [h9]; rfl
    clear h9 ex_ he1
    obtain ⟨cx, h_, hz_, hm_⟩ := QS.St.held2 HP.out
    have H := Aside0.mk h_
    have HZ := Aside0.mk hz_
    have HM := Aside0.mk hm_
    have HB := Aside0.mk HP.out.b
    clear h_ hz_ hm_ HP
    go_wp2_with (first | ((with_reducible refine gate_dst (N := 196) rfl ?_); refine ev_load (x := .tmp 9) rfl rfl rfl H.out (i := 1) rfl (HZ.out) ?_) | ((with_reducible refine gate_op (u := .store 30 (.tmp 6) (.tmp 196)) rfl ?_); refine ev_store rfl rfl rfl rfl H.out (i := 0) rfl rfl (HM.out _ ⟨rfl, rfl, rfl, Kept.refl _ _⟩) ?_; intro x91 h3_ h4_; have HE := Aside0.mk (HM.out _ h4_); clear h4_; have n0_ := Aside0.mk (h3_); clear H; have H := n0_; clear n0_; clear h3_))
    refine bodyPost_ret (results_ct rfl _ _ gr 30 _ (0, 0) _ rfl (H.out.at 0 rfl) Try.underlying30 rfl (msg_info (HZ.out))) rfl (by rw [EX.out]; exact ⟨_, rfl, HE.out, H.out.b⟩)
  · have ex_ : rparse 0 8 l = (zeroM, c10.e) := by rw [he1, if_pos h9]
    have EX := Aside0.mk ex_
    have g1 : (c10.e != 0) = true := by simpa using h9
    have g2 : (c10.e == 0) = false := by simpa using h9
    clear h9 ex_ he1
    have H := Aside0.mk (QS.St.held HP.out)
    clear HP
    go_upto_region 38 with (fail)
    clear ke
    refine start_ (n := 7) (S := fun w' => w'.cell? ⟨g, 3, none⟩ = some (.int .i64 c10.e) ∧ Aside0 (Held w0 [(gr, zeroC)] w')) (ds := []) (bm 7 0) (by as_aux_lemma => kernel_rfl) rfl (by as_aux_lemma => kernel_rfl) ⟨((RCur.cells4 (blk_drew HBK.out)).1.2.2.2), (Aside0.mk H.out.drew)⟩ (fun hHeld => ?_)
    refine with_tabW rparse10.tab38 rparse10.bits38 (fun HT_ HW_ => ?_)
    refine pure_ (i := 0) (N := some 191) (v := ?_) (a' := ?_) (bm 7 1) rfl rfl (any_of HT_.out (by as_aux_lemma => kernel_rfl)) (fun _ _ _ h => h) (Or.inl ⟨by rfl, ?_⟩) ?_ ?_
    rotate_left
    · intro w'
      go_simp
      with_reducible rfl
    rotate_left
    · simp only [Act.put, List.setIfInBounds_toArray, List.set_cons_zero, List.set_cons_succ, i64_w, i32_w]
      rfl
    refine pure_ (i := 1) (N := some 192) (v := ?_) (a' := ?_) (bm 7 3) rfl rfl (any_of HT_.out (by as_aux_lemma => kernel_rfl)) (fun _ _ _ h => h) (Or.inl ⟨by rfl, ?_⟩) ?_ ?_
    rotate_left
    · intro w'
      go_simp
      with_reducible rfl
    rotate_left
    · simp only [Act.put, List.setIfInBounds_toArray, List.set_cons_zero, List.set_cons_succ, i64_w, i32_w]
      rfl
    refine pure_ (i := 2) (N := some 193) (v := ?_) (a' := ?_) (bm 7 7) rfl rfl (any_of HT_.out (by as_aux_lemma => kernel_rfl)) (fun _ _ _ h => h) (Or.inl ⟨by rfl, ?_⟩) ?_ ?_
    rotate_left
    · intro w'
      go_simp
      with_reducible rfl
    rotate_left
    · simp only [Act.put, List.setIfInBounds_toArray, List.set_cons_zero, List.set_cons_succ, i64_w, i32_w]
      rfl
    refine pure_ (i := 3) (N := some 194) (v := ?_) (a' := ?_) (bm 7 15) rfl rfl (any_of HT_.out (by as_aux_lemma => kernel_rfl)) (fun _ _ _ h => h) (Or.inl ⟨by rfl, ?_⟩) ?_ ?_
    rotate_left
    · intro w'
      go_simp
      with_reducible rfl
    rotate_left
    · simp only [Act.put, List.setIfInBounds_toArray, List.set_cons_zero, List.set_cons_succ, i64_w, i32_w]
      rfl
    refine take_ (i := 4) (N := some 195) (v := ?_) (a' := ?_) (bm 7 31) rfl rfl (take_ofW HT_.out HW_.out (by as_aux_lemma => kernel_rfl)) (fun _ _ _ h => h) (Or.inl ⟨by rfl, ?_⟩) hHeld ?_ ?_
    rotate_left
    · rintro w' ⟨s0, s1⟩
      go_simp
      with_reducible rfl
    rotate_left
    · simp only [Act.put, List.setIfInBounds_toArray, List.set_cons_zero, List.set_cons_succ, i64_w, i32_w]
      rfl
    refine one_ (i := 5) (N := none) (bm 7 63) rfl rfl (one_of HT_.out (by as_aux_lemma => kernel_rfl)) (by as_aux_lemma => decide) (fun K hK => ?_)
    have Hd_ := Aside0.mk H.out.drew
    clear H
    have H := Hd_
    clear Hd_
    refine store_ (x := .tmp 6) (y := .tmp 191) (by rfl) rfl rfl rfl rfl H.out (i := 0) rfl (rfl) (zero_is w0) ?_
    intro x97 h3_ h4_
    have ke3 := (RCur.cells4 (blk_kept (blk_drew HBK.out) h4_.kept (fun e => HNE.out e.symm))).1.2.2.2
    have n0_ := Aside0.mk (h3_); clear H; have H := n0_; clear n0_; clear h3_ h4_
    refine hK.out _ _ ⟨ke3, H⟩ (fun hHeld => ?_)
    clear hK K
    refine pure_ (i := 6) (N := some 7) (v := ?_) (a' := ?_) (bm 7 127) rfl rfl (any_of HT_.out (by as_aux_lemma => kernel_rfl)) (fun _ _ _ h => h) (Or.inl ⟨by rfl, ?_⟩) ?_ ?_
    rotate_left
    · intro w'
      go_simp
      with_reducible rfl
    rotate_left
    · simp only [Act.put, List.setIfInBounds_toArray, List.set_cons_zero, List.set_cons_succ, i64_w, i32_w]
      rfl
    refine done_ (done_of HT_.out (by as_aux_lemma => kernel_rfl)) ?_
    go_wp2
    refine bodyPost_ret (results_ct rfl _ _ gr 30 _ (0, 0) _ rfl (H.out.at 0 rfl) Try.underlying30 rfl (msg_info (rfl))) rfl (by rw [EX.out]; exact ⟨_, rfl, zero_is _, H.out.b⟩)
theorem parse_0_8 {A : Option Addr} {c : Nat} {l : List Int} {w0 : World} (hr : Kd.C (Kd.int .u8) w0 A l.length l) (hc : l.length ≤ c) (hs : l.length ≤ 1000000) (hb : isBytes l) :
    Calls Try.prog 13 #[.int .i64 0, .int .u8 8, .slice A l.length c] w0 fun en w' => ∃ cx, en = .returned (.tuple #[.agg cx, .int .i64 (rparse 0 8 l).2]) ∧ IsMsg w' cx (rparse 0 8 l).1 ∧ Below w0.heap.size w0 w' := by
  by_cases hz : (⟨l, false, 0⟩ : Cu).wordV = 0
  · exact parse_0_8_e hr hc hs hb hz
  · exact parse_0_8_n hr hc hs hb hz
theorem parse_0_11 {A : Option Addr} {c : Nat} {l : List Int} {w0 : World} (hr : Kd.C (Kd.int .u8) w0 A l.length l) (hc : l.length ≤ c) (hs : l.length ≤ 1000000) (hb : isBytes l) :
    Calls Try.prog 13 #[.int .i64 0, .int .u8 11, .slice A l.length c] w0 fun en w' => ∃ cx, en = .returned (.tuple #[.agg cx, .int .i64 (rparse 0 11 l).2]) ∧ IsMsg w' cx (rparse 0 11 l).1 ∧ Below w0.heap.size w0 w' := by
  have HR := Aside0.mk hr
  have HC := Aside0.mk hc
  have HS := Aside0.mk hs
  have HBB := Aside0.mk hb
  clear hr hc hs hb
  go_enter Try.func13, Try.ntmps13
  go_upto_region 5 with (first | ((with_reducible refine gate_dst (N := 6) rfl ?_); refine ev_alloc rfl rfl ?_; intro gr w1 hg_ h1_ h2_; have HG_ := Aside0.mk hg_; have H1 := Aside0.mk h1_; have H2 := Aside0.mk h2_; clear hg_ h1_ h2_))
  go_upto_region 6 with (first | ((with_reducible refine gate_dst (N := 43) rfl ?_); refine QS.ev_cur rfl rfl rfl ?_; intro g w2 q1_ q2_; have HP := Aside0.mk (QS.Nw.first HR.out HC.out HS.out HBB.out HG_.out H1.out H2.out q1_ q2_); clear q1_ q2_ H1 H2 HG_))
  obtain ⟨c0, e_⟩ : ∃ z, z = (⟨l, false, 0⟩ : Cu) := ⟨_, rfl⟩
  rw [← e_] at HP
  have Ec0 := Aside0.mk e_
  clear e_
  go_upto_region 10 with (first | ((with_reducible refine gate_dst (N := 45) rfl ?_); refine ev_build ((zeroC.setIfInBounds 0 (.int .u8 (11)))) rfl (by go_simp; first | rfl | done) ?_; intro cx hcx_; have M := Aside0.mk (show ∀ W, IsMsg W cx _ from fun W => by rw [hcx_]; exact (fun W => set_code (zero_is W) (v := 11) (by decide)) W); have NL := Aside0.mk (show NilL cx by rw [hcx_]; exact (QS.zero_nil.set (by decide))); clear hcx_) | ((with_reducible refine gate_dst (N := 9) rfl ?_); refine ev_var (y := .tmp 45) rfl rfl rfl rfl rfl (M.out w0) rfl rfl ?_; intro gm w4 hg_ h1_ hb_; have hp_ := QS.Nw.new HP.out hg_ h1_ hb_ M.out NL.out; clear h1_ hb_ hg_; have n0_ := Aside0.mk hp_; clear HP hp_; have HP := n0_; clear n0_))
  clear HR HC HS HBB M NL
  obtain ⟨m0, hm0⟩ : ∃ z, z = ({ zeroM with code := 11 } : Msg) := ⟨_, rfl⟩
  replace HP : Aside0 (QS.St w0 gr g gm w4 c0 { zeroM with code := 11 }) := HP
  rw [← hm0] at HP
  have HM0 := Aside0.mk hm0
  have HMC := Aside0.mk (show m0.code = 11 by rw [hm0])
  clear hm0
  go_upto_region 36 with (fail)
  have eq_ : rbodyR 0 m0 c0 = (c0, m0) := by
    unfold rbodyR
    rw [if_neg (by have := HMC.out; omega), if_neg (by decide)]
    rfl
  obtain ⟨cb, e_⟩ : ∃ z, z = rbodyR 0 m0 c0 := ⟨_, rfl⟩
  have EBD := Aside0.mk e_
  rw [eq_] at e_
  obtain ⟨c9, m9⟩ := cb
  obtain ⟨e1_, e2_⟩ := Prod.mk.inj e_
  rw [← e1_, ← e2_] at HP
  clear e_ e1_ e2_ eq_
  go_upto_region 37 with (first | (go_at_call 32; (with_reducible refine (QS.St.fin HP.out).mono ?_); rintro en x61 ⟨rfl, hp_⟩; obtain ⟨c10, ec_⟩ : ∃ z, z = c9.fin := ⟨_, rfl⟩; rw [← ec_] at hp_; have Ec10 := Aside0.mk ec_; clear ec_; have n0_ := Aside0.mk hp_; clear HP hp_; have HP := n0_; clear n0_))
  have he1 : rparse 0 11 l = if c10.e ≠ 0 then (zeroM, c10.e) else (m9, 0) := by
    have e2 : rbodyR 0 m0 (cu l) = (c9, m9) := by rw [EBD.out, Ec0.out]; rfl
    unfold rparse
    rw [if_neg (by decide), if_neg (by decide), ← HM0.out, e2, Ec10.out]
  obtain ⟨v0, v1, v2, hbk⟩ := QS.St.blk HP.out
  have ke := (RCur.cells4 hbk).1.2.2.2
  have HBK := Aside0.mk hbk
  have HNE := Aside0.mk HP.out.h2.2.1
  clear hbk
  by_cases h9 : c10.e = 0
  · have ex_ : rparse 0 11 l = (m9, 0) := by rw [he1, if_neg (fun h => h h9)]
    have EX := Aside0.mk ex_
    have g1 : (c10.e != 0) = false := by rw [h9]; rfl
    have g2 : (c10.e == 0) = true := by rw [h9]; rfl
    clear h9 ex_ he1
    obtain ⟨cx, h_, hz_, hm_⟩ := QS.St.held2 HP.out
    have H := Aside0.mk h_
    have HZ := Aside0.mk hz_
    have HM := Aside0.mk hm_
    have HB := Aside0.mk HP.out.b
    clear h_ hz_ hm_ HP
    go_wp2_with (first | ((with_reducible refine gate_dst (N := 196) rfl ?_); refine ev_load (x := .tmp 9) rfl rfl rfl H.out (i := 1) rfl (HZ.out) ?_) | ((with_reducible refine gate_op (u := .store 30 (.tmp 6) (.tmp 196)) rfl ?_); refine ev_store rfl rfl rfl rfl H.out (i := 0) rfl rfl (HM.out _ ⟨rfl, rfl, rfl, Kept.refl _ _⟩) ?_; intro x91 h3_ h4_; have HE := Aside0.mk (HM.out _ h4_); clear h4_; have n0_ := Aside0.mk (h3_); clear H; have H := n0_; clear n0_; clear h3_))
    refine bodyPost_ret (results_ct rfl _ _ gr 30 _ (0, 0) _ rfl (H.out.at 0 rfl) Try.underlying30 rfl (msg_info (HZ.out))) rfl (by rw [EX.out]; exact ⟨_, rfl, HE.out, H.out.b⟩)
  · have ex_ : rparse 0 11 l = (zeroM, c10.e) := by rw [he1, if_pos h9]
    have EX := Aside0.mk ex_
    have g1 : (c10.e != 0) = true := by simpa using h9
    have g2 : (c10.e == 0) = false := by simpa using h9
    clear h9 ex_ he1
    have H := Aside0.mk (QS.St.held HP.out)
    clear HP
    go_upto_region 38 with (fail)
    clear ke
    refine start_ (n := 7) (S := fun w' => w'.cell? ⟨g, 3, none⟩ = some (.int .i64 c10.e) ∧ Aside0 (Held w0 [(gr, zeroC)] w')) (ds := []) (bm 7 0) (by as_aux_lemma => kernel_rfl) rfl (by as_aux_lemma => kernel_rfl) ⟨((RCur.cells4 (blk_drew HBK.out)).1.2.2.2), (Aside0.mk H.out.drew)⟩ (fun hHeld => ?_)
    refine with_tabW rparse10.tab38 rparse10.bits38 (fun HT_ HW_ => ?_)
    refine pure_ (i := 0) (N := some 191) (v := ?_) (a' := ?_) (bm 7 1) rfl rfl (any_of HT_.out (by as_aux_lemma => kernel_rfl)) (fun _ _ _ h => h) (Or.inl ⟨by rfl, ?_⟩) ?_ ?_
    rotate_left
    · intro w'
      go_simp
      with_reducible rfl
    rotate_left
    · simp only [Act.put, List.setIfInBounds_toArray, List.set_cons_zero, List.set_cons_succ, i64_w, i32_w]
      rfl
    refine pure_ (i := 1) (N := some 192) (v := ?_) (a' := ?_) (bm 7 3) rfl rfl (any_of HT_.out (by as_aux_lemma => kernel_rfl)) (fun _ _ _ h => h) (Or.inl ⟨by rfl, ?_⟩) ?_ ?_
    rotate_left
    · intro w'
      go_simp
      with_reducible rfl
    rotate_left
    · simp only [Act.put, List.setIfInBounds_toArray, List.set_cons_zero, List.set_cons_succ, i64_w, i32_w]
      rfl
    refine pure_ (i := 2) (N := some 193) (v := ?_) (a' := ?_) (bm 7 7) rfl rfl (any_of HT_.out (by as_aux_lemma => kernel_rfl)) (fun _ _ _ h => h) (Or.inl ⟨by rfl, ?_⟩) ?_ ?_
    rotate_left
    · intro w'
      go_simp
      with_reducible rfl
    rotate_left
    · simp only [Act.put, List.setIfInBounds_toArray, List.set_cons_zero, List.set_cons_succ, i64_w, i32_w]
      rfl
    refine pure_ (i := 3) (N := some 194) (v := ?_) (a' := ?_) (bm 7 15) rfl rfl (any_of HT_.out (by as_aux_lemma => kernel_rfl)) (fun _ _ _ h => h) (Or.inl ⟨by rfl, ?_⟩) ?_ ?_
    rotate_left
    · intro w'
      go_simp
      with_reducible rfl
    rotate_left
    · simp only [Act.put, List.setIfInBounds_toArray, List.set_cons_zero, List.set_cons_succ, i64_w, i32_w]
      rfl
    refine take_ (i := 4) (N := some 195) (v := ?_) (a' := ?_) (bm 7 31) rfl rfl (take_ofW HT_.out HW_.out (by as_aux_lemma => kernel_rfl)) (fun _ _ _ h => h) (Or.inl ⟨by rfl, ?_⟩) hHeld ?_ ?_
    rotate_left
    · rintro w' ⟨s0, s1⟩
      go_simp
      with_reducible rfl
    rotate_left
    · simp only [Act.put, List.setIfInBounds_toArray, List.set_cons_zero, List.set_cons_succ, i64_w, i32_w]
      rfl
    refine one_ (i := 5) (N := none) (bm 7 63) rfl rfl (one_of HT_.out (by as_aux_lemma => kernel_rfl)) (by as_aux_lemma => decide) (fun K hK => ?_)
    have Hd_ := Aside0.mk H.out.drew
    clear H
    have H := Hd_
    clear Hd_
    refine store_ (x := .tmp 6) (y := .tmp 191) (by rfl) rfl rfl rfl rfl H.out (i := 0) rfl (rfl) (zero_is w0) ?_
    intro x97 h3_ h4_
    have ke3 := (RCur.cells4 (blk_kept (blk_drew HBK.out) h4_.kept (fun e => HNE.out e.symm))).1.2.2.2
    have n0_ := Aside0.mk (h3_); clear H; have H := n0_; clear n0_; clear h3_ h4_
    refine hK.out _ _ ⟨ke3, H⟩ (fun hHeld => ?_)
    clear hK K
    refine pure_ (i := 6) (N := some 7) (v := ?_) (a' := ?_) (bm 7 127) rfl rfl (any_of HT_.out (by as_aux_lemma => kernel_rfl)) (fun _ _ _ h => h) (Or.inl ⟨by rfl, ?_⟩) ?_ ?_
    rotate_left
    · intro w'
      go_simp
      with_reducible rfl
    rotate_left
    · simp only [Act.put, List.setIfInBounds_toArray, List.set_cons_zero, List.set_cons_succ, i64_w, i32_w]
      rfl
    refine done_ (done_of HT_.out (by as_aux_lemma => kernel_rfl)) ?_
    go_wp2
    refine bodyPost_ret (results_ct rfl _ _ gr 30 _ (0, 0) _ rfl (H.out.at 0 rfl) Try.underlying30 rfl (msg_info (rfl))) rfl (by rw [EX.out]; exact ⟨_, rfl, zero_is _, H.out.b⟩)
theorem parse_0_12 {A : Option Addr} {c : Nat} {l : List Int} {w0 : World} (hr : Kd.C (Kd.int .u8) w0 A l.length l) (hc : l.length ≤ c) (hs : l.length ≤ 1000000) (hb : isBytes l) :
    Calls Try.prog 13 #[.int .i64 0, .int .u8 12, .slice A l.length c] w0 fun en w' => ∃ cx, en = .returned (.tuple #[.agg cx, .int .i64 (rparse 0 12 l).2]) ∧ IsMsg w' cx (rparse 0 12 l).1 ∧ Below w0.heap.size w0 w' := by
  have HR := Aside0.mk hr
  have HC := Aside0.mk hc
  have HS := Aside0.mk hs
  have HBB := Aside0.mk hb
  clear hr hc hs hb
  go_enter Try.func13, Try.ntmps13
  go_upto_region 5 with (first | ((with_reducible refine gate_dst (N := 6) rfl ?_); refine ev_alloc rfl rfl ?_; intro gr w1 hg_ h1_ h2_; have HG_ := Aside0.mk hg_; have H1 := Aside0.mk h1_; have H2 := Aside0.mk h2_; clear hg_ h1_ h2_))
  go_upto_region 6 with (first | ((with_reducible refine gate_dst (N := 43) rfl ?_); refine QS.ev_cur rfl rfl rfl ?_; intro g w2 q1_ q2_; have HP := Aside0.mk (QS.Nw.first HR.out HC.out HS.out HBB.out HG_.out H1.out H2.out q1_ q2_); clear q1_ q2_ H1 H2 HG_))
  obtain ⟨c0, e_⟩ : ∃ z, z = (⟨l, false, 0⟩ : Cu) := ⟨_, rfl⟩
  rw [← e_] at HP
  have Ec0 := Aside0.mk e_
  clear e_
  go_upto_region 10 with (first | ((with_reducible refine gate_dst (N := 45) rfl ?_); refine ev_build ((zeroC.setIfInBounds 0 (.int .u8 (12)))) rfl (by go_simp; first | rfl | done) ?_; intro cx hcx_; have M := Aside0.mk (show ∀ W, IsMsg W cx _ from fun W => by rw [hcx_]; exact (fun W => set_code (zero_is W) (v := 12) (by decide)) W); have NL := Aside0.mk (show NilL cx by rw [hcx_]; exact (QS.zero_nil.set (by decide))); clear hcx_) | ((with_reducible refine gate_dst (N := 9) rfl ?_); refine ev_var (y := .tmp 45) rfl rfl rfl rfl rfl (M.out w0) rfl rfl ?_; intro gm w4 hg_ h1_ hb_; have hp_ := QS.Nw.new HP.out hg_ h1_ hb_ M.out NL.out; clear h1_ hb_ hg_; have n0_ := Aside0.mk hp_; clear HP hp_; have HP := n0_; clear n0_))
  clear HR HC HS HBB M NL
  obtain ⟨m0, hm0⟩ : ∃ z, z = ({ zeroM with code := 12 } : Msg) := ⟨_, rfl⟩
  replace HP : Aside0 (QS.St w0 gr g gm w4 c0 { zeroM with code := 12 }) := HP
  rw [← hm0] at HP
  have HM0 := Aside0.mk hm0
  have HMC := Aside0.mk (show m0.code = 12 by rw [hm0])
  clear hm0
  go_upto_region 36 with (fail)
  have eq_ : rbodyR 0 m0 c0 = (c0, m0) := by
    unfold rbodyR
    rw [if_neg (by have := HMC.out; omega), if_neg (by decide)]
    rfl
  obtain ⟨cb, e_⟩ : ∃ z, z = rbodyR 0 m0 c0 := ⟨_, rfl⟩
  have EBD := Aside0.mk e_
  rw [eq_] at e_
  obtain ⟨c9, m9⟩ := cb
  obtain ⟨e1_, e2_⟩ := Prod.mk.inj e_
  rw [← e1_, ← e2_] at HP
  clear e_ e1_ e2_ eq_
  go_upto_region 37 with (first | (go_at_call 32; (with_reducible refine (QS.St.fin HP.out).mono ?_); rintro en x61 ⟨rfl, hp_⟩; obtain ⟨c10, ec_⟩ : ∃ z, z = c9.fin := ⟨_, rfl⟩; rw [← ec_] at hp_; have Ec10 := Aside0.mk ec_; clear ec_; have n0_ := Aside0.mk hp_; clear HP hp_; have HP := n0_; clear n0_))
  have he1 : rparse 0 12 l = if c10.e ≠ 0 then (zeroM, c10.e) else (m9, 0) := by
    have e2 : rbodyR 0 m0 (cu l) = (c9, m9) := by rw [EBD.out, Ec0.out]; rfl
    unfold rparse
    rw [if_neg (by decide), if_neg (by decide), ← HM0.out, e2, Ec10.out]
  obtain ⟨v0, v1, v2, hbk⟩ := QS.St.blk HP.out
  have ke := (RCur.cells4 hbk).1.2.2.2
  have HBK := Aside0.mk hbk
  have HNE := Aside0.mk HP.out.h2.2.1
  clear hbk
  by_cases h9 : c10.e = 0
  · have ex_ : rparse 0 12 l = (m9, 0) := by rw [he1, if_neg (fun h => h h9)]
    have EX := Aside0.mk ex_
    have g1 : (c10.e != 0) = false := by rw [h9]; rfl
    have g2 : (c10.e == 0) = true := by rw [h9]; rfl
    clear h9 ex_ he1
    obtain ⟨cx, h_, hz_, hm_⟩ := QS.St.held2 HP.out
    have H := Aside0.mk h_
    have HZ := Aside0.mk hz_
    have HM := Aside0.mk hm_
    have HB := Aside0.mk HP.out.b
    clear h_ hz_ hm_ HP
    go_wp2_with (first | ((with_reducible refine gate_dst (N := 196) rfl ?_); refine ev_load (x := .tmp 9) rfl rfl rfl H.out (i := 1) rfl (HZ.out) ?_) | ((with_reducible refine gate_op (u := .store 30 (.tmp 6) (.tmp 196)) rfl ?_); refine ev_store rfl rfl rfl rfl H.out (i := 0) rfl rfl (HM.out _ ⟨rfl, rfl, rfl, Kept.refl _ _⟩) ?_; intro x91 h3_ h4_; have HE := Aside0.mk (HM.out _ h4_); clear h4_; have n0_ := Aside0.mk (h3_); clear H; have H := n0_; clear n0_; clear h3_))
    refine bodyPost_ret (results_ct rfl _ _ gr 30 _ (0, 0) _ rfl (H.out.at 0 rfl) Try.underlying30 rfl (msg_info (HZ.out))) rfl (by rw [EX.out]; exact ⟨_, rfl, HE.out, H.out.b⟩)
  · have ex_ : rparse 0 12 l = (zeroM, c10.e) := by rw [he1, if_pos h9]
    have EX := Aside0.mk ex_
    have g1 : (c10.e != 0) = true := by simpa using h9
    have g2 : (c10.e == 0) = false := by simpa using h9
    clear h9 ex_ he1
    have H := Aside0.mk (QS.St.held HP.out)
    clear HP
    go_upto_region 38 with (fail)
    clear ke
    refine start_ (n := 7) (S := fun w' => w'.cell? ⟨g, 3, none⟩ = some (.int .i64 c10.e) ∧ Aside0 (Held w0 [(gr, zeroC)] w')) (ds := []) (bm 7 0) (by as_aux_lemma => kernel_rfl) rfl (by as_aux_lemma => kernel_rfl) ⟨((RCur.cells4 (blk_drew HBK.out)).1.2.2.2), (Aside0.mk H.out.drew)⟩ (fun hHeld => ?_)
    refine with_tabW rparse10.tab38 rparse10.bits38 (fun HT_ HW_ => ?_)
    refine pure_ (i := 0) (N := some 191) (v := ?_) (a' := ?_) (bm 7 1) rfl rfl (any_of HT_.out (by as_aux_lemma => kernel_rfl)) (fun _ _ _ h => h) (Or.inl ⟨by rfl, ?_⟩) ?_ ?_
    rotate_left
    · intro w'
      go_simp
      with_reducible rfl
    rotate_left
    · simp only [Act.put, List.setIfInBounds_toArray, List.set_cons_zero, List.set_cons_succ, i64_w, i32_w]
      rfl
    refine pure_ (i := 1) (N := some 192) (v := ?_) (a' := ?_) (bm 7 3) rfl rfl (any_of HT_.out (by as_aux_lemma => kernel_rfl)) (fun _ _ _ h => h) (Or.inl ⟨by rfl, ?_⟩) ?_ ?_
    rotate_left
    · intro w'
      go_simp
      with_reducible rfl
    rotate_left
    · simp only [Act.put, List.setIfInBounds_toArray, List.set_cons_zero, List.set_cons_succ, i64_w, i32_w]
      rfl
    refine pure_ (i := 2) (N := some 193) (v := ?_) (a' := ?_) (bm 7 7) rfl rfl (any_of HT_.out (by as_aux_lemma => kernel_rfl)) (fun _ _ _ h => h) (Or.inl ⟨by rfl, ?_⟩) ?_ ?_
    rotate_left
    · intro w'
      go_simp
      with_reducible rfl
    rotate_left
    · simp only [Act.put, List.setIfInBounds_toArray, List.set_cons_zero, List.set_cons_succ, i64_w, i32_w]
      rfl
    refine pure_ (i := 3) (N := some 194) (v := ?_) (a' := ?_) (bm 7 15) rfl rfl (any_of HT_.out (by as_aux_lemma => kernel_rfl)) (fun _ _ _ h => h) (Or.inl ⟨by rfl, ?_⟩) ?_ ?_
    rotate_left
    · intro w'
      go_simp
      with_reducible rfl
    rotate_left
    · simp only [Act.put, List.setIfInBounds_toArray, List.set_cons_zero, List.set_cons_succ, i64_w, i32_w]
      rfl
    refine take_ (i := 4) (N := some 195) (v := ?_) (a' := ?_) (bm 7 31) rfl rfl (take_ofW HT_.out HW_.out (by as_aux_lemma => kernel_rfl)) (fun _ _ _ h => h) (Or.inl ⟨by rfl, ?_⟩) hHeld ?_ ?_
    rotate_left
    · rintro w' ⟨s0, s1⟩
      go_simp
      with_reducible rfl
    rotate_left
    · simp only [Act.put, List.setIfInBounds_toArray, List.set_cons_zero, List.set_cons_succ, i64_w, i32_w]
      rfl
    refine one_ (i := 5) (N := none) (bm 7 63) rfl rfl (one_of HT_.out (by as_aux_lemma => kernel_rfl)) (by as_aux_lemma => decide) (fun K hK => ?_)
    have Hd_ := Aside0.mk H.out.drew
    clear H
    have H := Hd_
    clear Hd_
    refine store_ (x := .tmp 6) (y := .tmp 191) (by rfl) rfl rfl rfl rfl H.out (i := 0) rfl (rfl) (zero_is w0) ?_
    intro x97 h3_ h4_
    have ke3 := (RCur.cells4 (blk_kept (blk_drew HBK.out) h4_.kept (fun e => HNE.out e.symm))).1.2.2.2
    have n0_ := Aside0.mk (h3_); clear H; have H := n0_; clear n0_; clear h3_ h4_
    refine hK.out _ _ ⟨ke3, H⟩ (fun hHeld => ?_)
    clear hK K
    refine pure_ (i := 6) (N := some 7) (v := ?_) (a' := ?_) (bm 7 127) rfl rfl (any_of HT_.out (by as_aux_lemma => kernel_rfl)) (fun _ _ _ h => h) (Or.inl ⟨by rfl, ?_⟩) ?_ ?_
    rotate_left
    · intro w'
      go_simp
      with_reducible rfl
    rotate_left
    · simp only [Act.put, List.setIfInBounds_toArray, List.set_cons_zero, List.set_cons_succ, i64_w, i32_w]
      rfl
    refine done_ (done_of HT_.out (by as_aux_lemma => kernel_rfl)) ?_
    go_wp2
    refine bodyPost_ret (results_ct rfl _ _ gr 30 _ (0, 0) _ rfl (H.out.at 0 rfl) Try.underlying30 rfl (msg_info (rfl))) rfl (by rw [EX.out]; exact ⟨_, rfl, zero_is _, H.out.b⟩)
theorem parse_0_17 {A : Option Addr} {c : Nat} {l : List Int} {w0 : World} (hr : Kd.C (Kd.int .u8) w0 A l.length l) (hc : l.length ≤ c) (hs : l.length ≤ 1000000) (hb : isBytes l) :
    Calls Try.prog 13 #[.int .i64 0, .int .u8 17, .slice A l.length c] w0 fun en w' => ∃ cx, en = .returned (.tuple #[.agg cx, .int .i64 (rparse 0 17 l).2]) ∧ IsMsg w' cx (rparse 0 17 l).1 ∧ Below w0.heap.size w0 w' := by
  have HR := Aside0.mk hr
  have HC := Aside0.mk hc
  have HS := Aside0.mk hs
  have HBB := Aside0.mk hb
  clear hr hc hs hb
  go_enter Try.func13, Try.ntmps13
  go_upto_region 5 with (first | ((with_reducible refine gate_dst (N := 6) rfl ?_); refine ev_alloc rfl rfl ?_; intro gr w1 hg_ h1_ h2_; have HG_ := Aside0.mk hg_; have H1 := Aside0.mk h1_; have H2 := Aside0.mk h2_; clear hg_ h1_ h2_))
  go_upto_region 6 with (first | ((with_reducible refine gate_dst (N := 43) rfl ?_); refine QS.ev_cur rfl rfl rfl ?_; intro g w2 q1_ q2_; have HP := Aside0.mk (QS.Nw.first HR.out HC.out HS.out HBB.out HG_.out H1.out H2.out q1_ q2_); clear q1_ q2_ H1 H2 HG_))
  obtain ⟨c0, e_⟩ : ∃ z, z = (⟨l, false, 0⟩ : Cu) := ⟨_, rfl⟩
  rw [← e_] at HP
  have Ec0 := Aside0.mk e_
  clear e_
  go_upto_region 10 with (first | ((with_reducible refine gate_dst (N := 45) rfl ?_); refine ev_build ((zeroC.setIfInBounds 0 (.int .u8 (17)))) rfl (by go_simp; first | rfl | done) ?_; intro cx hcx_; have M := Aside0.mk (show ∀ W, IsMsg W cx _ from fun W => by rw [hcx_]; exact (fun W => set_code (zero_is W) (v := 17) (by decide)) W); have NL := Aside0.mk (show NilL cx by rw [hcx_]; exact (QS.zero_nil.set (by decide))); clear hcx_) | ((with_reducible refine gate_dst (N := 9) rfl ?_); refine ev_var (y := .tmp 45) rfl rfl rfl rfl rfl (M.out w0) rfl rfl ?_; intro gm w4 hg_ h1_ hb_; have hp_ := QS.Nw.new HP.out hg_ h1_ hb_ M.out NL.out; clear h1_ hb_ hg_; have n0_ := Aside0.mk hp_; clear HP hp_; have HP := n0_; clear n0_))
  clear HR HC HS HBB M NL
  obtain ⟨m0, hm0⟩ : ∃ z, z = ({ zeroM with code := 17 } : Msg) := ⟨_, rfl⟩
  replace HP : Aside0 (QS.St w0 gr g gm w4 c0 { zeroM with code := 17 }) := HP
  rw [← hm0] at HP
  have HM0 := Aside0.mk hm0
  have HMC := Aside0.mk (show m0.code = 17 by rw [hm0])
  clear hm0
  go_upto_region 36 with (fail)
  have eq_ : rbodyR 0 m0 c0 = (c0, m0) := by
    unfold rbodyR
    rw [if_neg (by have := HMC.out; omega), if_neg (by decide)]
    rfl
  obtain ⟨cb, e_⟩ : ∃ z, z = rbodyR 0 m0 c0 := ⟨_, rfl⟩
  have EBD := Aside0.mk e_
  rw [eq_] at e_
  obtain ⟨c9, m9⟩ := cb
  obtain ⟨e1_, e2_⟩ := Prod.mk.inj e_
  rw [← e1_, ← e2_] at HP
  clear e_ e1_ e2_ eq_
  go_upto_region 37 with (first | (go_at_call 32; (with_reducible refine (QS.St.fin HP.out).mono ?_); rintro en x61 ⟨rfl, hp_⟩; obtain ⟨c10, ec_⟩ : ∃ z, z = c9.fin := ⟨_, rfl⟩; rw [← ec_] at hp_; have Ec10 := Aside0.mk ec_; clear ec_; have n0_ := Aside0.mk hp_; clear HP hp_; have HP := n0_; clear n0_))
  have he1 : rparse 0 17 l = if c10.e ≠ 0 then (zeroM, c10.e) else (m9, 0) := by
    have e2 : rbodyR 0 m0 (cu l) = (c9, m9) := by rw [EBD.out, Ec0.out]; rfl
    unfold rparse
    rw [if_neg (by decide), if_neg (by decide), ← HM0.out, e2, Ec10.out]
  obtain ⟨v0, v1, v2, hbk⟩ := QS.St.blk HP.out
  have ke := (RCur.cells4 hbk).1.2.2.2
  have HBK := Aside0.mk hbk
  have HNE := Aside0.mk HP.out.h2.2.1
  clear hbk
  by_cases h9 : c10.e = 0
  · have ex_ : rparse 0 17 l = (m9, 0) := by rw [he1, if_neg (fun h => h h9)]
    have EX := Aside0.mk ex_
    have g1 : (c10.e != 0) = false := by rw [h9]; rfl
    have g2 : (c10.e == 0) = true := by rw [h9]; rfl
    clear h9 ex_ he1
    obtain ⟨cx, h_, hz_, hm_⟩ := QS.St.held2 HP.out
    have H := Aside0.mk h_
    have HZ := Aside0.mk hz_
    have HM := Aside0.mk hm_
    have HB := Aside0.mk HP.out.b
    clear h_ hz_ hm_ HP
    go_wp2_with (first | ((with_reducible refine gate_dst (N := 196) rfl ?_); refine ev_load (x := .tmp 9) rfl rfl rfl H.out (i := 1) rfl (HZ.out) ?_) | ((with_reducible refine gate_op (u := .store 30 (.tmp 6) (.tmp 196)) rfl ?_); refine ev_store rfl rfl rfl rfl H.out (i := 0) rfl rfl (HM.out _ ⟨rfl, rfl, rfl, Kept.refl _ _⟩) ?_; intro x91 h3_ h4_; have HE := Aside0.mk (HM.out _ h4_); clear h4_; have n0_ := Aside0.mk (h3_); clear H; have H := n0_; clear n0_; clear h3_))
    refine bodyPost_ret (results_ct rfl _ _ gr 30 _ (0, 0) _ rfl (H.out.at 0 rfl) Try.underlying30 rfl (msg_info (HZ.out))) rfl (by rw [EX.out]; exact ⟨_, rfl, HE.out, H.out.b⟩)
  · have ex_ : rparse 0 17 l = (zeroM, c10.e) := by rw [he1, if_pos h9]
    have EX := Aside0.mk ex_
    have g1 : (c10.e != 0) = true := by simpa using h9
    have g2 : (c10.e == 0) = false := by simpa using h9
    clear h9 ex_ he1
    have H := Aside0.mk (QS.St.held HP.out)
    clear HP
    go_upto_region 38 with (fail)
    clear ke
    refine start_ (n := 7) (S := fun w' => w'.cell? ⟨g, 3, none⟩ = some (.int .i64 c10.e) ∧ Aside0 (Held w0 [(gr, zeroC)] w')) (ds := []) (bm 7 0) (by as_aux_lemma => kernel_rfl) rfl (by as_aux_lemma => kernel_rfl) ⟨((RCur.cells4 (blk_drew HBK.out)).1.2.2.2), (Aside0.mk H.out.drew)⟩ (fun hHeld => ?_)
    refine with_tabW rparse10.tab38 rparse10.bits38 (fun HT_ HW_ => ?_)
    refine pure_ (i := 0) (N := some 191) (v := ?_) (a' := ?_) (bm 7 1) rfl rfl (any_of HT_.out (by as_aux_lemma => kernel_rfl)) (fun _ _ _ h => h) (Or.inl ⟨by rfl, ?_⟩) ?_ ?_
    rotate_left
    · intro w'
      go_simp
      with_reducible rfl
    rotate_left
    · simp only [Act.put, List.setIfInBounds_toArray, List.set_cons_zero, List.set_cons_succ, i64_w, i32_w]
      rfl
    refine pure_ (i := 1) (N := some 192) (v := ?_) (a' := ?_) (bm 7 3) rfl rfl (any_of HT_.out (by as_aux_lemma => kernel_rfl)) (fun _ _ _ h => h) (Or.inl ⟨by rfl, ?_⟩) ?_ ?_
    rotate_left
    · intro w'
      go_simp
      with_reducible rfl
    rotate_left
    · simp only [Act.put, List.setIfInBounds_toArray, List.set_cons_zero, List.set_cons_succ, i64_w, i32_w]
      rfl
    refine pure_ (i := 2) (N := some 193) (v := ?_) (a' := ?_) (bm 7 7) rfl rfl (any_of HT_.out (by as_aux_lemma => kernel_rfl)) (fun _ _ _ h => h) (Or.inl ⟨by rfl, ?_⟩) ?_ ?_
    rotate_left
    · intro w'
      go_simp
      with_reducible rfl
    rotate_left
    · simp only [Act.put, List.setIfInBounds_toArray, List.set_cons_zero, List.set_cons_succ, i64_w, i32_w]
      rfl
    refine pure_ (i := 3) (N := some 194) (v := ?_) (a' := ?_) (bm 7 15) rfl rfl (any_of HT_.out (by as_aux_lemma => kernel_rfl)) (fun _ _ _ h => h) (Or.inl ⟨by rfl, ?_⟩) ?_ ?_
    rotate_left
    · intro w'
      go_simp
      with_reducible rfl
    rotate_left
    · simp only [Act.put, List.setIfInBounds_toArray, List.set_cons_zero, List.set_cons_succ, i64_w, i32_w]
      rfl
    refine take_ (i := 4) (N := some 195) (v := ?_) (a' := ?_) (bm 7 31) rfl rfl (take_ofW HT_.out HW_.out (by as_aux_lemma => kernel_rfl)) (fun _ _ _ h => h) (Or.inl ⟨by rfl, ?_⟩) hHeld ?_ ?_
    rotate_left
    · rintro w' ⟨s0, s1⟩
      go_simp
      with_reducible rfl
    rotate_left
    · simp only [Act.put, List.setIfInBounds_toArray, List.set_cons_zero, List.set_cons_succ, i64_w, i32_w]
      rfl
    refine one_ (i := 5) (N := none) (bm 7 63) rfl rfl (one_of HT_.out (by as_aux_lemma => kernel_rfl)) (by as_aux_lemma => decide) (fun K hK => ?_)
    have Hd_ := Aside0.mk H.out.drew
    clear H
    have H := Hd_
    clear Hd_
    refine store_ (x := .tmp 6) (y := .tmp 191) (by rfl) rfl rfl rfl rfl H.out (i := 0) rfl (rfl) (zero_is w0) ?_
    intro x97 h3_ h4_
    have ke3 := (RCur.cells4 (blk_kept (blk_drew HBK.out) h4_.kept (fun e => HNE.out e.symm))).1.2.2.2
    have n0_ := Aside0.mk (h3_); clear H; have H := n0_; clear n0_; clear h3_ h4_
    refine hK.out _ _ ⟨ke3, H⟩ (fun hHeld => ?_)
    clear hK K
    refine pure_ (i := 6) (N := some 7) (v := ?_) (a' := ?_) (bm 7 127) rfl rfl (any_of HT_.out (by as_aux_lemma => kernel_rfl)) (fun _ _ _ h => h) (Or.inl ⟨by rfl, ?_⟩) ?_ ?_
    rotate_left
    · intro w'
      go_simp
      with_reducible rfl
    rotate_left
    · simp only [Act.put, List.setIfInBounds_toArray, List.set_cons_zero, List.set_cons_succ, i64_w, i32_w]
      rfl
    refine done_ (done_of HT_.out (by as_aux_lemma => kernel_rfl)) ?_
    go_wp2
    refine bodyPost_ret (results_ct rfl _ _ gr 30 _ (0, 0) _ rfl (H.out.at 0 rfl) Try.underlying30 rfl (msg_info (rfl))) rfl (by rw [EX.out]; exact ⟨_, rfl, zero_is _, H.out.b⟩)
theorem parse_1_7 {A : Option Addr} {c : Nat} {l : List Int} {w0 : World} (hr : Kd.C (Kd.int .u8) w0 A l.length l) (hc : l.length ≤ c) (hs : l.length ≤ 1000000) (hb : isBytes l) :
    Calls Try.prog 13 #[.int .i64 1, .int .u8 7, .slice A l.length c] w0 fun en w' => ∃ cx, en = .returned (.tuple #[.agg cx, .int .i64 (rparse 1 7 l).2]) ∧ IsMsg w' cx (rparse 1 7 l).1 ∧ Below w0.heap.size w0 w' := by
  have HR := Aside0.mk hr
  have HC := Aside0.mk hc
  have HS := Aside0.mk hs
  have HBB := Aside0.mk hb
  clear hr hc hs hb
  go_enter Try.func13, Try.ntmps13
  go_upto_region 5 with (first | ((with_reducible refine gate_dst (N := 6) rfl ?_); refine ev_alloc rfl rfl ?_; intro gr w1 hg_ h1_ h2_; have HG_ := Aside0.mk hg_; have H1 := Aside0.mk h1_; have H2 := Aside0.mk h2_; clear hg_ h1_ h2_))
  go_upto_region 6 with (first | ((with_reducible refine gate_dst (N := 43) rfl ?_); refine QS.ev_cur rfl rfl rfl ?_; intro g w2 q1_ q2_; have HP := Aside0.mk (QS.Nw.first HR.out HC.out HS.out HBB.out HG_.out H1.out H2.out q1_ q2_); clear q1_ q2_ H1 H2 HG_))
  obtain ⟨c0, e_⟩ : ∃ z, z = (⟨l, false, 0⟩ : Cu) := ⟨_, rfl⟩
  rw [← e_] at HP
  have Ec0 := Aside0.mk e_
  clear e_
  go_upto_region 10 with (first | ((with_reducible refine gate_dst (N := 45) rfl ?_); refine ev_build ((zeroC.setIfInBounds 0 (.int .u8 (7)))) rfl (by go_simp; first | rfl | done) ?_; intro cx hcx_; have M := Aside0.mk (show ∀ W, IsMsg W cx _ from fun W => by rw [hcx_]; exact (fun W => set_code (zero_is W) (v := 7) (by decide)) W); have NL := Aside0.mk (show NilL cx by rw [hcx_]; exact (QS.zero_nil.set (by decide))); clear hcx_) | ((with_reducible refine gate_dst (N := 9) rfl ?_); refine ev_var (y := .tmp 45) rfl rfl rfl rfl rfl (M.out w0) rfl rfl ?_; intro gm w4 hg_ h1_ hb_; have hp_ := QS.Nw.new HP.out hg_ h1_ hb_ M.out NL.out; clear h1_ hb_ hg_; have n0_ := Aside0.mk hp_; clear HP hp_; have HP := n0_; clear n0_))
  clear HR HC HS HBB M NL
  obtain ⟨m0, hm0⟩ : ∃ z, z = ({ zeroM with code := 7 } : Msg) := ⟨_, rfl⟩
  replace HP : Aside0 (QS.St w0 gr g gm w4 c0 { zeroM with code := 7 }) := HP
  rw [← hm0] at HP
  have HM0 := Aside0.mk hm0
  have HMC := Aside0.mk (show m0.code = 7 by rw [hm0])
  clear hm0
  go_upto_region 23 with (fail)
  have wu : IntKind.u16.wrap c0.byteV = c0.byteV := by
    obtain ⟨l_, h_⟩ := Cu.byteV_bd (QS.St.good HP.out)
    rw [IntKind.wrap_u16]
    omega
  go_upto_region 36 with (first | (go_at_call 30; obtain ⟨l0, h0⟩ := Cu.byteV_bd (QS.St.good HP.out); (with_reducible refine (QS.St.byte HP.out).mono ?_); rintro en x1 ⟨rfl, hp_⟩; obtain ⟨c1, ec_⟩ : ∃ z, z = c0.byteS := ⟨_, rfl⟩; rw [← ec_] at hp_; have Ec1 := Aside0.mk ec_; clear ec_; obtain ⟨kvalue, fvalue⟩ := QS.St.at_value hp_; have n0_ := Aside0.mk hp_; clear HP hp_; have HP := n0_; clear n0_))
  have hp_ := HP.out.put_value ⟨l0, by omega⟩
  have n0_ := Aside0.mk hp_
  clear HP hp_
  have HP := n0_
  clear n0_
  have eq_ : rbodyR 1 m0 c0 = (c1, { m0 with value := c0.byteV }) := by
    unfold rbodyR ansR
    rw [if_neg (by have := HMC.out; omega), if_pos rfl]
    rw [if_pos HMC.out]
    rw [Ec1.out]
    rfl
  obtain ⟨cb, e_⟩ : ∃ z, z = rbodyR 1 m0 c0 := ⟨_, rfl⟩
  have EBD := Aside0.mk e_
  rw [eq_] at e_
  obtain ⟨c9, m9⟩ := cb
  obtain ⟨e1_, e2_⟩ := Prod.mk.inj e_
  rw [← e1_, ← e2_] at HP
  clear e_ e1_ e2_ eq_
  go_upto_region 37 with (first | (go_at_call 32; (with_reducible refine (QS.St.fin HP.out).mono ?_); rintro en x61 ⟨rfl, hp_⟩; obtain ⟨c10, ec_⟩ : ∃ z, z = c9.fin := ⟨_, rfl⟩; rw [← ec_] at hp_; have Ec10 := Aside0.mk ec_; clear ec_; have n0_ := Aside0.mk hp_; clear HP hp_; have HP := n0_; clear n0_))
  have he1 : rparse 1 7 l = if c10.e ≠ 0 then (zeroM, c10.e) else (m9, 0) := by
    have e2 : rbodyR 1 m0 (cu l) = (c9, m9) := by rw [EBD.out, Ec0.out]; rfl
    unfold rparse
    rw [if_neg (by decide), if_neg (by decide), ← HM0.out, e2, Ec10.out]
  obtain ⟨v0, v1, v2, hbk⟩ := QS.St.blk HP.out
  have ke := (RCur.cells4 hbk).1.2.2.2
  have HBK := Aside0.mk hbk
  have HNE := Aside0.mk HP.out.h2.2.1
  clear hbk
  by_cases h9 : c10.e = 0
  · have ex_ : rparse 1 7 l = (m9, 0) := by rw [he1, if_neg (fun h => h h9)]
    have EX := Aside0.mk ex_
    have g1 : (c10.e != 0) = false := by rw [h9]; rfl
    have g2 : (c10.e == 0) = true := by rw [h9]; rfl
    clear h9 ex_ he1
    obtain ⟨cx, h_, hz_, hm_⟩ := QS.St.held2 HP.out
    have H := Aside0.mk h_
    have HZ := Aside0.mk hz_
    have HM := Aside0.mk hm_
    have HB := Aside0.mk HP.out.b
    clear h_ hz_ hm_ HP
    go_wp2_with (first | ((with_reducible refine gate_dst (N := 196) rfl ?_); refine ev_load (x := .tmp 9) rfl rfl rfl H.out (i := 1) rfl (HZ.out) ?_) | ((with_reducible refine gate_op (u := .store 30 (.tmp 6) (.tmp 196)) rfl ?_); refine ev_store rfl rfl rfl rfl H.out (i := 0) rfl rfl (HM.out _ ⟨rfl, rfl, rfl, Kept.refl _ _⟩) ?_; intro x91 h3_ h4_; have HE := Aside0.mk (HM.out _ h4_); clear h4_; have n0_ := Aside0.mk (h3_); clear H; have H := n0_; clear n0_; clear h3_))
    refine bodyPost_ret (results_ct rfl _ _ gr 30 _ (0, 0) _ rfl (H.out.at 0 rfl) Try.underlying30 rfl (msg_info (HZ.out))) rfl (by rw [EX.out]; exact ⟨_, rfl, HE.out, H.out.b⟩)
  · have ex_ : rparse 1 7 l = (zeroM, c10.e) := by rw [he1, if_pos h9]
    have EX := Aside0.mk ex_
    have g1 : (c10.e != 0) = true := by simpa using h9
    have g2 : (c10.e == 0) = false := by simpa using h9
    clear h9 ex_ he1
    have H := Aside0.mk (QS.St.held HP.out)
    clear HP
    go_upto_region 38 with (fail)
    clear ke
    refine start_ (n := 7) (S := fun w' => w'.cell? ⟨g, 3, none⟩ = some (.int .i64 c10.e) ∧ Aside0 (Held w0 [(gr, zeroC)] w')) (ds := []) (bm 7 0) (by as_aux_lemma => kernel_rfl) rfl (by as_aux_lemma => kernel_rfl) ⟨((RCur.cells4 (blk_drew HBK.out)).1.2.2.2), (Aside0.mk H.out.drew)⟩ (fun hHeld => ?_)
    refine with_tabW rparse10.tab38 rparse10.bits38 (fun HT_ HW_ => ?_)
    refine pure_ (i := 0) (N := some 191) (v := ?_) (a' := ?_) (bm 7 1) rfl rfl (any_of HT_.out (by as_aux_lemma => kernel_rfl)) (fun _ _ _ h => h) (Or.inl ⟨by rfl, ?_⟩) ?_ ?_
    rotate_left
    · intro w'
      go_simp
      with_reducible rfl
    rotate_left
    · simp only [Act.put, List.setIfInBounds_toArray, List.set_cons_zero, List.set_cons_succ, i64_w, i32_w]
      rfl
    refine pure_ (i := 1) (N := some 192) (v := ?_) (a' := ?_) (bm 7 3) rfl rfl (any_of HT_.out (by as_aux_lemma => kernel_rfl)) (fun _ _ _ h => h) (Or.inl ⟨by rfl, ?_⟩) ?_ ?_
    rotate_left
    · intro w'
      go_simp
      with_reducible rfl
    rotate_left
    · simp only [Act.put, List.setIfInBounds_toArray, List.set_cons_zero, List.set_cons_succ, i64_w, i32_w]
      rfl
    refine pure_ (i := 2) (N := some 193) (v := ?_) (a' := ?_) (bm 7 7) rfl rfl (any_of HT_.out (by as_aux_lemma => kernel_rfl)) (fun _ _ _ h => h) (Or.inl ⟨by rfl, ?_⟩) ?_ ?_
    rotate_left
    · intro w'
      go_simp
      with_reducible rfl
    rotate_left
    · simp only [Act.put, List.setIfInBounds_toArray, List.set_cons_zero, List.set_cons_succ, i64_w, i32_w]
      rfl
    refine pure_ (i := 3) (N := some 194) (v := ?_) (a' := ?_) (bm 7 15) rfl rfl (any_of HT_.out (by as_aux_lemma => kernel_rfl)) (fun _ _ _ h => h) (Or.inl ⟨by rfl, ?_⟩) ?_ ?_
    rotate_left
    · intro w'
      go_simp
      with_reducible rfl
    rotate_left
    · simp only [Act.put, List.setIfInBounds_toArray, List.set_cons_zero, List.set_cons_succ, i64_w, i32_w]
      rfl
    refine take_ (i := 4) (N := some 195) (v := ?_) (a' := ?_) (bm 7 31) rfl rfl (take_ofW HT_.out HW_.out (by as_aux_lemma => kernel_rfl)) (fun _ _ _ h => h) (Or.inl ⟨by rfl, ?_⟩) hHeld ?_ ?_
    rotate_left
    · rintro w' ⟨s0, s1⟩
      go_simp
      with_reducible rfl
    rotate_left
    · simp only [Act.put, List.setIfInBounds_toArray, List.set_cons_zero, List.set_cons_succ, i64_w, i32_w]
      rfl
    refine one_ (i := 5) (N := none) (bm 7 63) rfl rfl (one_of HT_.out (by as_aux_lemma => kernel_rfl)) (by as_aux_lemma => decide) (fun K hK => ?_)
    have Hd_ := Aside0.mk H.out.drew
    clear H
    have H := Hd_
    clear Hd_
    refine store_ (x := .tmp 6) (y := .tmp 191) (by rfl) rfl rfl rfl rfl H.out (i := 0) rfl (rfl) (zero_is w0) ?_
    intro x97 h3_ h4_
    have ke3 := (RCur.cells4 (blk_kept (blk_drew HBK.out) h4_.kept (fun e => HNE.out e.symm))).1.2.2.2
    have n0_ := Aside0.mk (h3_); clear H; have H := n0_; clear n0_; clear h3_ h4_
    refine hK.out _ _ ⟨ke3, H⟩ (fun hHeld => ?_)
    clear hK K
    refine pure_ (i := 6) (N := some 7) (v := ?_) (a' := ?_) (bm 7 127) rfl rfl (any_of HT_.out (by as_aux_lemma => kernel_rfl)) (fun _ _ _ h => h) (Or.inl ⟨by rfl, ?_⟩) ?_ ?_
    rotate_left
    · intro w'
      go_simp
      with_reducible rfl
    rotate_left
    · simp only [Act.put, List.setIfInBounds_toArray, List.set_cons_zero, List.set_cons_succ, i64_w, i32_w]
      rfl
    refine done_ (done_of HT_.out (by as_aux_lemma => kernel_rfl)) ?_
    go_wp2
    refine bodyPost_ret (results_ct rfl _ _ gr 30 _ (0, 0) _ rfl (H.out.at 0 rfl) Try.underlying30 rfl (msg_info (rfl))) rfl (by rw [EX.out]; exact ⟨_, rfl, zero_is _, H.out.b⟩)
theorem parse_1_8_e {A : Option Addr} {c : Nat} {l : List Int} {w0 : World} (hr : Kd.C (Kd.int .u8) w0 A l.length l) (hc : l.length ≤ c) (hs : l.length ≤ 1000000) (hb : isBytes l) (hz : (⟨l, false, 0⟩ : Cu).wordV = 0) :
    Calls Try.prog 13 #[.int .i64 1, .int .u8 8, .slice A l.length c] w0 fun en w' => ∃ cx, en = .returned (.tuple #[.agg cx, .int .i64 (rparse 1 8 l).2]) ∧ IsMsg w' cx (rparse 1 8 l).1 ∧ Below w0.heap.size w0 w' := by
  have HZ := Aside0.mk hz
  clear hz
  have HR := Aside0.mk hr
  have HC := Aside0.mk hc
  have HS := Aside0.mk hs
  have HBB := Aside0.mk hb
  clear hr hc hs hb
  go_enter Try.func13, Try.ntmps13
  go_upto_region 5 with (first | ((with_reducible refine gate_dst (N := 6) rfl ?_); refine ev_alloc rfl rfl ?_; intro gr w1 hg_ h1_ h2_; have HG_ := Aside0.mk hg_; have H1 := Aside0.mk h1_; have H2 := Aside0.mk h2_; clear hg_ h1_ h2_))
  go_upto_region 6 with (first | ((with_reducible refine gate_dst (N := 43) rfl ?_); refine QS.ev_cur rfl rfl rfl ?_; intro g w2 q1_ q2_; have HP := Aside0.mk (QS.Nw.first HR.out HC.out HS.out HBB.out HG_.out H1.out H2.out q1_ q2_); clear q1_ q2_ H1 H2 HG_))
  obtain ⟨c0, e_⟩ : ∃ z, z = (⟨l, false, 0⟩ : Cu) := ⟨_, rfl⟩
  rw [← e_] at HP
  have Ec0 := Aside0.mk e_
  clear e_
  go_upto_region 10 with (first | ((with_reducible refine gate_dst (N := 45) rfl ?_); refine ev_build ((zeroC.setIfInBounds 0 (.int .u8 (8)))) rfl (by go_simp; first | rfl | done) ?_; intro cx hcx_; have M := Aside0.mk (show ∀ W, IsMsg W cx _ from fun W => by rw [hcx_]; exact (fun W => set_code (zero_is W) (v := 8) (by decide)) W); have NL := Aside0.mk (show NilL cx by rw [hcx_]; exact (QS.zero_nil.set (by decide))); clear hcx_) | ((with_reducible refine gate_dst (N := 9) rfl ?_); refine ev_var (y := .tmp 45) rfl rfl rfl rfl rfl (M.out w0) rfl rfl ?_; intro gm w4 hg_ h1_ hb_; have hp_ := QS.Nw.new HP.out hg_ h1_ hb_ M.out NL.out; clear h1_ hb_ hg_; have n0_ := Aside0.mk hp_; clear HP hp_; have HP := n0_; clear n0_))
  clear HR HC HS HBB M NL
  obtain ⟨m0, hm0⟩ : ∃ z, z = ({ zeroM with code := 8 } : Msg) := ⟨_, rfl⟩
  replace HP : Aside0 (QS.St w0 gr g gm w4 c0 { zeroM with code := 8 }) := HP
  rw [← hm0] at HP
  have HM0 := Aside0.mk hm0
  have HMC := Aside0.mk (show m0.code = 8 by rw [hm0])
  clear hm0
  go_upto_region 11 with (fail)
  go_upto_region 12 with (first | (go_at_call 25; obtain ⟨l0, h0⟩ := Cu.wordV_bd (QS.St.good HP.out); (with_reducible refine (QS.St.word HP.out).mono ?_); rintro en x1 ⟨rfl, hp_⟩; obtain ⟨c1, ec_⟩ : ∃ z, z = c0.wordS := ⟨_, rfl⟩; rw [← ec_] at hp_; have Ec1 := Aside0.mk ec_; clear ec_; obtain ⟨ksub, fsub⟩ := QS.St.at_sub hp_; have n0_ := Aside0.mk hp_; clear HP hp_; have HP := n0_; clear n0_))
  have hp_ := HP.out.put_sub ⟨l0, h0⟩
  obtain ⟨ksub, fsub⟩ := QS.St.at_sub hp_
  have n0_ := Aside0.mk hp_
  clear HP hp_
  have HP := n0_
  clear n0_
  go_upto_region 13 with (first | (go_at_call 19; (with_reducible refine (rsub_c ⟨l0, h0⟩ _).mono ?_); rintro en xs ⟨rfl, hb_⟩; have n0_ := Aside0.mk (HP.out.below hb_); clear HP hb_; have HP := n0_; clear n0_))
  clear ksub fsub
  obtain ⟨c2, e_⟩ : ∃ z, z = c1.need (subB c0.wordV && ((1 : Int) == 0 || c0.wordV != 4)) 8 := ⟨_, rfl⟩
  have Ec2 := Aside0.mk e_
  clear e_
  obtain ⟨ksub, fsub⟩ := QS.St.at_sub HP.out
  go_cut [10] from 67 to 82 (fun v10_ wx => Aside0 (QS.St w0 gr g gm wx c2 ({ m0 with sub := c0.wordV })))
  case first =>
    cases hs0_ : (subB c0.wordV) with
    | true =>
      cases hs1_ : (c0.wordV != 4) with
      | true =>
        have hs1a_ : (c0.wordV == 4) = false := by first | exact hs1_ | (rw [bne, hs1_]; rfl) | (have := hs1_; rw [bne] at this; simpa using this)
        have eb_ : (subB c0.wordV && ((1 : Int) == 0 || c0.wordV != 4)) = (true) := by first | (simp only [hs0_, hs1_]; first | rfl | (simp; done)) | (simp [hs0_, hs1_]; done) | (simp only [bne, hs0_, hs1_]; first | rfl | (simp; done))
        have EB_ := Aside0.mk eb_
        clear eb_
        go_wp2_with (first | (go_at_call 26; (with_reducible refine (QS.St.need HP.out (true) 8).mono ?_); rintro en x2 ⟨rfl, hp_⟩; have n0_ := Aside0.mk hp_; clear HP hp_; have HP := n0_; clear n0_))
        go_meet
        rw [Ec2.out, EB_.out]
        exact HP
      | false =>
        have hs1a_ : (c0.wordV == 4) = true := by first | exact hs1_ | (rw [bne, hs1_]; rfl) | (have := hs1_; rw [bne] at this; simpa using this)
        have eb_ : (subB c0.wordV && ((1 : Int) == 0 || c0.wordV != 4)) = (false) := by first | (simp only [hs0_, hs1_]; first | rfl | (simp; done)) | (simp [hs0_, hs1_]; done) | (simp only [bne, hs0_, hs1_]; first | rfl | (simp; done))
        have EB_ := Aside0.mk eb_
        clear eb_
        go_wp2_with (first | (go_at_call 26; (with_reducible refine (QS.St.need HP.out (false) 8).mono ?_); rintro en x2 ⟨rfl, hp_⟩; have n0_ := Aside0.mk hp_; clear HP hp_; have HP := n0_; clear n0_))
        go_meet
        rw [Ec2.out, EB_.out]
        exact HP
    | false =>
      have eb_ : (subB c0.wordV && ((1 : Int) == 0 || c0.wordV != 4)) = (false) := by first | (simp only [hs0_]; first | rfl | (simp; done)) | (simp [hs0_]; done) | (simp only [bne, hs0_]; first | rfl | (simp; done))
      have EB_ := Aside0.mk eb_
      clear eb_
      go_wp2_with (first | (go_at_call 26; (with_reducible refine (QS.St.need HP.out (false) 8).mono ?_); rintro en x2 ⟨rfl, hp_⟩; have n0_ := Aside0.mk hp_; clear HP hp_; have HP := n0_; clear n0_))
      go_meet
      rw [Ec2.out, EB_.out]
      exact HP
  case rest =>
  clear HP
  have HP := hcut
  clear hcut
  clear ksub fsub
  have hz_ : (c0.wordV == 0) = true := by rw [show c0.wordV = 0 by rw [Ec0.out]; exact HZ.out]; rfl
  obtain ⟨ksub, fsub⟩ := QS.St.at_sub HP.out
  go_upto_region 16 with (first | (go_at_call 27; (with_reducible refine (QS.St.left HP.out).mono ?_); rintro en x3 ⟨rfl, hp_⟩; have n0_ := Aside0.mk hp_; clear HP hp_; have HP := n0_; clear n0_))
  clear hz_ ksub fsub
  have wd : Int.tdiv (c2.xs.length : Int) 2 = (c2.xs.length : Int) / 2 := Int.tdiv_eq_ediv_of_nonneg (by omega)
  have wq := wrap64_id (x := (c2.xs.length : Int) / 2) (by omega) (by have := (QS.St.good HP.out).2.1; omega)
  obtain ⟨c3, e_⟩ : ∃ z, z = c2.need ((c2.xs.length : Int) % 2 == 0 && (decide (2 ≤ (c2.xs.length : Int)) && decide ((c2.xs.length : Int) ≤ 250))) 5 := ⟨_, rfl⟩
  have Ec3 := Aside0.mk e_
  clear e_
  go_cut [] from 87 to 100 (fun wx => Aside0 (QS.St w0 gr g gm wx c3 ({ m0 with sub := c0.wordV })))
  case first =>
    cases hs0_ : ((c2.xs.length : Int) % 2 == 0) with
    | true =>
      have hs0a_ : ((c2.xs.length : Int) % 2 != 0) = false := by first | exact hs0_ | (rw [bne, hs0_]; rfl) | (have := hs0_; rw [bne] at this; simpa using this)
      have hs0t_ : (Int.tmod (c2.xs.length : Int) 2 == 0) = true := by rw [Int.tmod_eq_emod_of_nonneg (by omega)]; exact hs0_
      cases hs1_ : (decide (2 ≤ (c2.xs.length : Int))) with
      | true =>
        have hs1a_ : (decide ((c2.xs.length : Int) ≥ 2)) = true := by first | exact hs1_ | (rw [bne, hs1_]; rfl) | (have := hs1_; rw [bne] at this; simpa using this)
        have eb_ : ((c2.xs.length : Int) % 2 == 0 && (decide (2 ≤ (c2.xs.length : Int)) && decide ((c2.xs.length : Int) ≤ 250))) = (decide ((c2.xs.length : Int) ≤ 250)) := by first | (simp only [hs0_, hs1_]; first | rfl | (simp; done)) | (simp [hs0_, hs1_]; done) | (simp only [bne, hs0_, hs1_]; first | rfl | (simp; done))
        have EB_ := Aside0.mk eb_
        clear eb_
        go_wp2_with (first | (go_at_call 26; (with_reducible refine (QS.St.need HP.out (decide ((c2.xs.length : Int) ≤ 250)) 5).mono ?_); rintro en x4 ⟨rfl, hp_⟩; have n0_ := Aside0.mk hp_; clear HP hp_; have HP := n0_; clear n0_))
        go_meet
        rw [Ec3.out, EB_.out]
        exact HP
      | false =>
        have hs1a_ : (decide ((c2.xs.length : Int) ≥ 2)) = false := by first | exact hs1_ | (rw [bne, hs1_]; rfl) | (have := hs1_; rw [bne] at this; simpa using this)
        have eb_ : ((c2.xs.length : Int) % 2 == 0 && (decide (2 ≤ (c2.xs.length : Int)) && decide ((c2.xs.length : Int) ≤ 250))) = (false) := by first | (simp only [hs0_, hs1_]; first | rfl | (simp; done)) | (simp [hs0_, hs1_]; done) | (simp only [bne, hs0_, hs1_]; first | rfl | (simp; done))
        have EB_ := Aside0.mk eb_
        clear eb_
        go_wp2_with (first | (go_at_call 26; (with_reducible refine (QS.St.need HP.out (false) 5).mono ?_); rintro en x4 ⟨rfl, hp_⟩; have n0_ := Aside0.mk hp_; clear HP hp_; have HP := n0_; clear n0_))
        go_meet
        rw [Ec3.out, EB_.out]
        exact HP
    | false =>
      have hs0a_ : ((c2.xs.length : Int) % 2 != 0) = true := by first | exact hs0_ | (rw [bne, hs0_]; rfl) | (have := hs0_; rw [bne] at this; simpa using this)
      have hs0t_ : (Int.tmod (c2.xs.length : Int) 2 == 0) = false := by rw [Int.tmod_eq_emod_of_nonneg (by omega)]; exact hs0_
      have eb_ : ((c2.xs.length : Int) % 2 == 0 && (decide (2 ≤ (c2.xs.length : Int)) && decide ((c2.xs.length : Int) ≤ 250))) = (false) := by first | (simp only [hs0_]; first | rfl | (simp; done)) | (simp [hs0_]; done) | (simp only [bne, hs0_]; first | rfl | (simp; done))
      have EB_ := Aside0.mk eb_
      clear eb_
      go_wp2_with (first | (go_at_call 26; (with_reducible refine (QS.St.need HP.out (false) 5).mono ?_); rintro en x4 ⟨rfl, hp_⟩; have n0_ := Aside0.mk hp_; clear HP hp_; have HP := n0_; clear n0_))
      go_meet
      rw [Ec3.out, EB_.out]
      exact HP
  case rest =>
  clear HP
  have HP := hcut
  clear hcut
  have HBY := Aside0.mk (Cu.wordsV_bd (QS.St.good HP.out) ((c2.xs.length : Int) / 2))
  go_upto_region 36 with (first | (go_at_call 28; (with_reducible refine (QS.St.words HP.out ((c2.xs.length : Int) / 2)).mono ?_); rintro en x5 ⟨A5, n5, rfl, hz_, hr_, hp_⟩; obtain ⟨c4, ec_⟩ : ∃ z, z = c3.wordsS ((c2.xs.length : Int) / 2) := ⟨_, rfl⟩; rw [← ec_] at hp_; have Ec4 := Aside0.mk ec_; clear ec_; have R5 := Aside0.mk hr_; have R5z := Aside0.mk hz_; clear hr_ hz_; have n0_ := Aside0.mk hp_; clear HP hp_; have HP := n0_; clear n0_; obtain ⟨Aw, nw, kw, fw⟩ := QS.St.at_words HP.out))
  have hp_ := HP.out.put_words R5z.out HBY.out R5.out
  have n0_ := Aside0.mk hp_
  clear HP hp_
  have HP := n0_
  clear n0_
  have eq_ : rbodyR 1 m0 c0 = (c4, { m0 with sub := c0.wordV, words := c3.wordsV ((c2.xs.length : Int) / 2) }) := by
    have e1 : rbodyR 1 m0 c0 = echoR { m0 with sub := c0.wordV } c2 := by
      unfold rbodyR
      rw [if_pos HMC.out, Ec2.out, Ec1.out]
      show (if c0.wordV = 0 then (_ : Cu → Cu × Msg) else _) _ = _
      rw [if_pos (by rw [Ec0.out]; exact HZ.out)]
      rfl
    rw [e1, Ec4.out, Ec3.out]
    rfl
  obtain ⟨cb, e_⟩ : ∃ z, z = rbodyR 1 m0 c0 := ⟨_, rfl⟩
  have EBD := Aside0.mk e_
  rw [eq_] at e_
  obtain ⟨c9, m9⟩ := cb
  obtain ⟨e1_, e2_⟩ := Prod.mk.inj e_
  rw [← e1_, ← e2_] at HP
  clear e_ e1_ e2_ eq_
  go_upto_region 37 with (first | (go_at_call 32; (with_reducible refine (QS.St.fin HP.out).mono ?_); rintro en x61 ⟨rfl, hp_⟩; obtain ⟨c10, ec_⟩ : ∃ z, z = c9.fin := ⟨_, rfl⟩; rw [← ec_] at hp_; have Ec10 := Aside0.mk ec_; clear ec_; have n0_ := Aside0.mk hp_; clear HP hp_; have HP := n0_; clear n0_))
  have he1 : rparse 1 8 l = if c10.e ≠ 0 then (zeroM, c10.e) else (m9, 0) := by
    have e2 : rbodyR 1 m0 (cu l) = (c9, m9) := by rw [EBD.out, Ec0.out]; rfl
    unfold rparse
    rw [if_neg (by decide), if_neg (by decide), ← HM0.out, e2, Ec10.out]
  obtain ⟨v0, v1, v2, hbk⟩ := QS.St.blk HP.out
  have ke := (RCur.cells4 hbk).1.2.2.2
  have HBK := Aside0.mk hbk
  have HNE := Aside0.mk HP.out.h2.2.1
  clear hbk
  by_cases h9 : c10.e = 0
  · have ex_ : rparse 1 8 l = (m9, 0) := by rw [he1, if_neg (fun h => h h9)]
    have EX := Aside0.mk ex_
    have g1 : (c10.e != 0) = false := by rw [h9]; rfl
    have g2 : (c10.e == 0) = true := by rw [h9]; rfl
    clear h9 ex_ he1
    obtain ⟨cx, h_, hz_, hm_⟩ := QS.St.held2 HP.out
    have H := Aside0.mk h_
    have HZ := Aside0.mk hz_
    have HM := Aside0.mk hm_
    have HB := Aside0.mk HP.out.b
    clear h_ hz_ hm_ HP
    go_wp2_with (first | ((with_reducible refine gate_dst (N := 196) rfl ?_); refine ev_load (x := .tmp 9) rfl rfl rfl H.out (i := 1) rfl (HZ.out) ?_) | ((with_reducible refine gate_op (u := .store 30 (.tmp 6) (.tmp 196)) rfl ?_); refine ev_store rfl rfl rfl rfl H.out (i := 0) rfl rfl (HM.out _ ⟨rfl, rfl, rfl, Kept.refl _ _⟩) ?_; intro x91 h3_ h4_; have HE := Aside0.mk (HM.out _ h4_); clear h4_; have n0_ := Aside0.mk (h3_); clear H; have H := n0_; clear n0_; clear h3_))
    refine bodyPost_ret (results_ct rfl _ _ gr 30 _ (0, 0) _ rfl (H.out.at 0 rfl) Try.underlying30 rfl (msg_info (HZ.out))) rfl (by rw [EX.out]; exact ⟨_, rfl, HE.out, H.out.b⟩)
  · have ex_ : rparse 1 8 l = (zeroM, c10.e) := by rw [he1, if_pos h9]
    have EX := Aside0.mk ex_
    have g1 : (c10.e != 0) = true := by simpa using h9
    have g2 : (c10.e == 0) = false := by simpa using h9
    clear h9 ex_ he1
    have H := Aside0.mk (QS.St.held HP.out)
    clear HP
    go_upto_region 38 with (fail)
    clear ke
    refine start_ (n := 7) (S := fun w' => w'.cell? ⟨g, 3, none⟩ = some (.int .i64 c10.e) ∧ Aside0 (Held w0 [(gr, zeroC)] w')) (ds := []) (bm 7 0) (by as_aux_lemma => kernel_rfl) rfl (by as_aux_lemma => kernel_rfl) ⟨((RCur.cells4 (blk_drew HBK.out)).1.2.2.2), (Aside0.mk H.out.drew)⟩ (fun hHeld => ?_)
    refine with_tabW rparse10.tab38 rparse10.bits38 (fun HT_ HW_ => ?_)
    refine pure_ (i := 0) (N := some 191) (v := ?_) (a' := ?_) (bm 7 1) rfl rfl (any_of HT_.out (by as_aux_lemma => kernel_rfl)) (fun _ _ _ h => h) (Or.inl ⟨by rfl, ?_⟩) ?_ ?_
    rotate_left
    · intro w'
      go_simp
      with_reducible rfl
    rotate_left
    · simp only [Act.put, List.setIfInBounds_toArray, List.set_cons_zero, List.set_cons_succ, i64_w, i32_w]
      rfl
    refine pure_ (i := 1) (N := some 192) (v := ?_) (a' := ?_) (bm 7 3) rfl rfl (any_of HT_.out (by as_aux_lemma => kernel_rfl)) (fun _ _ _ h => h) (Or.inl ⟨by rfl, ?_⟩) ?_ ?_
    rotate_left
    · intro w'
      go_simp
      with_reducible rfl
    rotate_left
    · simp only [Act.put, List.setIfInBounds_toArray, List.set_cons_zero, List.set_cons_succ, i64_w, i32_w]
      rfl
    refine pure_ (i := 2) (N := some 193) (v := ?_) (a' := ?_) (bm 7 7) rfl rfl (any_of HT_.out (by as_aux_lemma => kernel_rfl)) (fun _ _ _ h => h) (Or.inl ⟨by rfl, ?_⟩) ?_ ?_
    rotate_left
    · intro w'
      go_simp
      with_reducible rfl
    rotate_left
    · simp only [Act.put, List.setIfInBounds_toArray, List.set_cons_zero, List.set_cons_succ, i64_w, i32_w]
      rfl
    refine pure_ (i := 3) (N := some 194) (v := ?_) (a' := ?_) (bm 7 15) rfl rfl (any_of HT_.out (by as_aux_lemma => kernel_rfl)) (fun _ _ _ h => h) (Or.inl ⟨by rfl, ?_⟩) ?_ ?_
    rotate_left
    · intro w'
      go_simp
      with_reducible rfl
    rotate_left
    · simp only [Act.put, List.setIfInBounds_toArray, List.set_cons_zero, List.set_cons_succ, i64_w, i32_w]
      rfl
    refine take_ (i := 4) (N := some 195) (v := ?_) (a' := ?_) (bm 7 31) rfl rfl (take_ofW HT_.out HW_.out (by as_aux_lemma => kernel_rfl)) (fun _ _ _ h => h) (Or.inl ⟨by rfl, ?_⟩) hHeld ?_ ?_
    rotate_left
    · rintro w' ⟨s0, s1⟩
      go_simp
      with_reducible rfl
    rotate_left
    · simp only [Act.put, List.setIfInBounds_toArray, List.set_cons_zero, List.set_cons_succ, i64_w, i32_w]
      rfl
    refine one_ (i := 5) (N := none) (bm 7 63) rfl rfl (one_of HT_.out (by as_aux_lemma => kernel_rfl)) (by as_aux_lemma => decide) (fun K hK => ?_)
    have Hd_ := Aside0.mk H.out.drew
    clear H
    have H := Hd_
    clear Hd_
    refine store_ (x := .tmp 6) (y := .tmp 191) (by rfl) rfl rfl rfl rfl H.out (i := 0) rfl (rfl) (zero_is w0) ?_
    intro x97 h3_ h4_
    have ke3 := (RCur.cells4 (blk_kept (blk_drew HBK.out) h4_.kept (fun e => HNE.out e.symm))).1.2.2.2
    have n0_ := Aside0.mk (h3_); clear H; have H := n0_; clear n0_; clear h3_ h4_
    refine hK.out _ _ ⟨ke3, H⟩ (fun hHeld => ?_)
    clear hK K
    refine pure_ (i := 6) (N := some 7) (v := ?_) (a' := ?_) (bm 7 127) rfl rfl (any_of HT_.out (by as_aux_lemma => kernel_rfl)) (fun _ _ _ h => h) (Or.inl ⟨by rfl, ?_⟩) ?_ ?_
    rotate_left
    · intro w'
      go_simp
      with_reducible rfl
    rotate_left
    · simp only [Act.put, List.setIfInBounds_toArray, List.set_cons_zero, List.set_cons_succ, i64_w, i32_w]
      rfl
    refine done_ (done_of HT_.out (by as_aux_lemma => kernel_rfl)) ?_
    go_wp2
    refine bodyPost_ret (results_ct rfl _ _ gr 30 _ (0, 0) _ rfl (H.out.at 0 rfl) Try.underlying30 rfl (msg_info (rfl))) rfl (by rw [EX.out]; exact ⟨_, rfl, zero_is _, H.out.b⟩)
theorem parse_1_8_n {A : Option Addr} {c : Nat} {l : List Int} {w0 : World} (hr : Kd.C (Kd.int .u8) w0 A l.length l) (hc : l.length ≤ c) (hs : l.length ≤ 1000000) (hb : isBytes l) (hz : (⟨l, false, 0⟩ : Cu).wordV ≠ 0) :
    Calls Try.prog 13 #[.int .i64 1, .int .u8 8, .slice A l.length c] w0 fun en w' => ∃ cx, en = .returned (.tuple #[.agg cx, .int .i64 (rparse 1 8 l).2]) ∧ IsMsg w' cx (rparse 1 8 l).1 ∧ Below w0.heap.size w0 w' := by
  have HZ := Aside0.mk hz
  clear hz
  have HR := Aside0.mk hr
  have HC := Aside0.mk hc
  have HS := Aside0.mk hs
  have HBB := Aside0.mk hb
  clear hr hc hs hb
  go_enter Try.func13, Try.ntmps13
  go_upto_region 5 with (first | ((with_reducible refine gate_dst (N := 6) rfl ?_); refine ev_alloc rfl rfl ?_; intro gr w1 hg_ h1_ h2_; have HG_ := Aside0.mk hg_; have H1 := Aside0.mk h1_; have H2 := Aside0.mk h2_; clear hg_ h1_ h2_))
  go_upto_region 6 with (first | ((with_reducible refine gate_dst (N := 43) rfl ?_); refine QS.ev_cur rfl rfl rfl ?_; intro g w2 q1_ q2_; have HP := Aside0.mk (QS.Nw.first HR.out HC.out HS.out HBB.out HG_.out H1.out H2.out q1_ q2_); clear q1_ q2_ H1 H2 HG_))
  obtain ⟨c0, e_⟩ : ∃ z, z = (⟨l, false, 0⟩ : Cu) := ⟨_, rfl⟩
  rw [← e_] at HP
  have Ec0 := Aside0.mk e_
  clear e_
  go_upto_region 10 with (first | ((with_reducible refine gate_dst (N := 45) rfl ?_); refine ev_build ((zeroC.setIfInBounds 0 (.int .u8 (8)))) rfl (by go_simp; first | rfl | done) ?_; intro cx hcx_; have M := Aside0.mk (show ∀ W, IsMsg W cx _ from fun W => by rw [hcx_]; exact (fun W => set_code (zero_is W) (v := 8) (by decide)) W); have NL := Aside0.mk (show NilL cx by rw [hcx_]; exact (QS.zero_nil.set (by decide))); clear hcx_) | ((with_reducible refine gate_dst (N := 9) rfl ?_); refine ev_var (y := .tmp 45) rfl rfl rfl rfl rfl (M.out w0) rfl rfl ?_; intro gm w4 hg_ h1_ hb_; have hp_ := QS.Nw.new HP.out hg_ h1_ hb_ M.out NL.out; clear h1_ hb_ hg_; have n0_ := Aside0.mk hp_; clear HP hp_; have HP := n0_; clear n0_))
  clear HR HC HS HBB M NL
  obtain ⟨m0, hm0⟩ : ∃ z, z = ({ zeroM with code := 8 } : Msg) := ⟨_, rfl⟩
  replace HP : Aside0 (QS.St w0 gr g gm w4 c0 { zeroM with code := 8 }) := HP
  rw [← hm0] at HP
  have HM0 := Aside0.mk hm0
  have HMC := Aside0.mk (show m0.code = 8 by rw [hm0])
  clear hm0
  go_upto_region 11 with (fail)
  go_upto_region 12 with (first | (go_at_call 25; obtain ⟨l0, h0⟩ := Cu.wordV_bd (QS.St.good HP.out); (with_reducible refine (QS.St.word HP.out).mono ?_); rintro en x1 ⟨rfl, hp_⟩; obtain ⟨c1, ec_⟩ : ∃ z, z = c0.wordS := ⟨_, rfl⟩; rw [← ec_] at hp_; have Ec1 := Aside0.mk ec_; clear ec_; obtain ⟨ksub, fsub⟩ := QS.St.at_sub hp_; have n0_ := Aside0.mk hp_; clear HP hp_; have HP := n0_; clear n0_))
  have hp_ := HP.out.put_sub ⟨l0, h0⟩
  obtain ⟨ksub, fsub⟩ := QS.St.at_sub hp_
  have n0_ := Aside0.mk hp_
  clear HP hp_
  have HP := n0_
  clear n0_
  go_upto_region 13 with (first | (go_at_call 19; (with_reducible refine (rsub_c ⟨l0, h0⟩ _).mono ?_); rintro en xs ⟨rfl, hb_⟩; have n0_ := Aside0.mk (HP.out.below hb_); clear HP hb_; have HP := n0_; clear n0_))
  clear ksub fsub
  obtain ⟨c2, e_⟩ : ∃ z, z = c1.need (subB c0.wordV && ((1 : Int) == 0 || c0.wordV != 4)) 8 := ⟨_, rfl⟩
  have Ec2 := Aside0.mk e_
  clear e_
  obtain ⟨ksub, fsub⟩ := QS.St.at_sub HP.out
  go_cut [10] from 67 to 82 (fun v10_ wx => Aside0 (QS.St w0 gr g gm wx c2 ({ m0 with sub := c0.wordV })))
  case first =>
    cases hs0_ : (subB c0.wordV) with
    | true =>
      cases hs1_ : (c0.wordV != 4) with
      | true =>
        have hs1a_ : (c0.wordV == 4) = false := by first | exact hs1_ | (rw [bne, hs1_]; rfl) | (have := hs1_; rw [bne] at this; simpa using this)
        have eb_ : (subB c0.wordV && ((1 : Int) == 0 || c0.wordV != 4)) = (true) := by first | (simp only [hs0_, hs1_]; first | rfl | (simp; done)) | (simp [hs0_, hs1_]; done) | (simp only [bne, hs0_, hs1_]; first | rfl | (simp; done))
        have EB_ := Aside0.mk eb_
        clear eb_
        go_wp2_with (first | (go_at_call 26; (with_reducible refine (QS.St.need HP.out (true) 8).mono ?_); rintro en x2 ⟨rfl, hp_⟩; have n0_ := Aside0.mk hp_; clear HP hp_; have HP := n0_; clear n0_))
        go_meet
        rw [Ec2.out, EB_.out]
        exact HP
      | false =>
        have hs1a_ : (c0.wordV == 4) = true := by first | exact hs1_ | (rw [bne, hs1_]; rfl) | (have := hs1_; rw [bne] at this; simpa using this)
        have eb_ : (subB c0.wordV && ((1 : Int) == 0 || c0.wordV != 4)) = (false) := by first | (simp only [hs0_, hs1_]; first | rfl | (simp; done)) | (simp [hs0_, hs1_]; done) | (simp only [bne, hs0_, hs1_]; first | rfl | (simp; done))
        have EB_ := Aside0.mk eb_
        clear eb_
        go_wp2_with (first | (go_at_call 26; (with_reducible refine (QS.St.need HP.out (false) 8).mono ?_); rintro en x2 ⟨rfl, hp_⟩; have n0_ := Aside0.mk hp_; clear HP hp_; have HP := n0_; clear n0_))
        go_meet
        rw [Ec2.out, EB_.out]
        exact HP
    | false =>
      have eb_ : (subB c0.wordV && ((1 : Int) == 0 || c0.wordV != 4)) = (false) := by first | (simp only [hs0_]; first | rfl | (simp; done)) | (simp [hs0_]; done) | (simp only [bne, hs0_]; first | rfl | (simp; done))
      have EB_ := Aside0.mk eb_
      clear eb_
      go_wp2_with (first | (go_at_call 26; (with_reducible refine (QS.St.need HP.out (false) 8).mono ?_); rintro en x2 ⟨rfl, hp_⟩; have n0_ := Aside0.mk hp_; clear HP hp_; have HP := n0_; clear n0_))
      go_meet
      rw [Ec2.out, EB_.out]
      exact HP
  case rest =>
  clear HP
  have HP := hcut
  clear hcut
  clear ksub fsub
  have hz_ : (c0.wordV == 0) = false := by rw [Ec0.out]; simpa using HZ.out
  obtain ⟨ksub, fsub⟩ := QS.St.at_sub HP.out
  go_upto_region 19 with (first | (go_at_call 25; obtain ⟨l2, h2⟩ := Cu.wordV_bd (QS.St.good HP.out); (with_reducible refine (QS.St.word HP.out).mono ?_); rintro en x3 ⟨rfl, hp_⟩; obtain ⟨c3, ec_⟩ : ∃ z, z = c2.wordS := ⟨_, rfl⟩; rw [← ec_] at hp_; have Ec3 := Aside0.mk ec_; clear ec_; have n0_ := Aside0.mk hp_; clear HP hp_; have HP := n0_; clear n0_))
  clear hz_
  clear ksub fsub
  obtain ⟨ksub, fsub⟩ := QS.St.at_sub HP.out
  go_upto_region 20 with (first | (go_at_call 29; (with_reducible refine (rmay_c (.inr rfl) ⟨l0, h0⟩ ⟨l2, h2⟩ _).mono ?_); rintro en xm ⟨rfl, hb_⟩; have n0_ := Aside0.mk (HP.out.below hb_); clear HP hb_; have HP := n0_; clear n0_) | (go_at_call 26; (with_reducible refine (QS.St.need HP.out (mayB 1 c0.wordV c2.wordV) 6).mono ?_); rintro en x4 ⟨rfl, hp_⟩; obtain ⟨c4, ec_⟩ : ∃ z, z = c3.need (mayB 1 c0.wordV c2.wordV) 6 := ⟨_, rfl⟩; rw [← ec_] at hp_; have Ec4 := Aside0.mk ec_; clear ec_; have n0_ := Aside0.mk hp_; clear HP hp_; have HP := n0_; clear n0_))
  clear ksub fsub
  go_upto_region 36 with (first | ((with_reducible refine gate_dst (N := 115) rfl ?_); refine Com.ev_rlit .u16 [c2.wordV] 24 rfl rfl (by first | (go_simp; done) | (go_simp; rfl)) (by simp) ?_; intro v_ w9 hr_ hb_; have hl_ := lt3 HP.out; obtain ⟨A5, n5, ev_, hz_, hC_⟩ := row_kept (S := fun k => k = g ∨ k = gm ∨ k = gr) hr_ (fun k hk => by rcases hk with rfl | rfl | rfl <;> omega); subst ev_; have R5 := Aside0.mk hC_; have R5z := Aside0.mk hz_; have n0_ := Aside0.mk (HP.out.below hb_); clear HP hb_; have HP := n0_; clear n0_; clear hr_ hl_ hz_ hC_; obtain ⟨Aw, nw, kw, fw⟩ := QS.St.at_words HP.out))
  have hp_ := HP.out.put_words R5z.out (fun x hx => by have e_ := List.mem_singleton.1 hx; rw [e_]; exact ⟨l2, h2⟩) R5.out
  have n0_ := Aside0.mk hp_
  clear HP hp_
  have HP := n0_
  clear n0_
  replace HP : Aside0 (QS.St w0 gr g gm (w9.setCell ⟨gm, 12, none⟩ (.slice A5 1 n5)) c4 _) := HP
  have eq_ : rbodyR 1 m0 c0 = (c4, { m0 with sub := c0.wordV, words := [c2.wordV] }) := by
    have e1 : rbodyR 1 m0 c0 = wordR 1 c0.wordV m0 c2 := by
      unfold rbodyR
      rw [if_pos HMC.out, Ec2.out, Ec1.out]
      show (if c0.wordV = 0 then (_ : Cu → Cu × Msg) else _) _ = _
      rw [if_neg (by rw [Ec0.out]; exact HZ.out)]
      rfl
    rw [e1, Ec4.out, Ec3.out]
    rfl
  obtain ⟨cb, e_⟩ : ∃ z, z = rbodyR 1 m0 c0 := ⟨_, rfl⟩
  have EBD := Aside0.mk e_
  rw [eq_] at e_
  obtain ⟨c9, m9⟩ := cb
  obtain ⟨e1_, e2_⟩ := Prod.mk.inj e_
  rw [← e1_, ← e2_] at HP
  clear e_ e1_ e2_ eq_
  go_upto_region 37 with (first | (go_at_call 32; (with_reducible refine (QS.St.fin HP.out).mono ?_); rintro en x61 ⟨rfl, hp_⟩; obtain ⟨c10, ec_⟩ : ∃ z, z = c9.fin := ⟨_, rfl⟩; rw [← ec_] at hp_; have Ec10 := Aside0.mk ec_; clear ec_; have n0_ := Aside0.mk hp_; clear HP hp_; have HP := n0_; clear n0_))
  have he1 : rparse 1 8 l = if c10.e ≠ 0 then (zeroM, c10.e) else (m9, 0) := by
    have e2 : rbodyR 1 m0 (cu l) = (c9, m9) := by rw [EBD.out, Ec0.out]; rfl
    unfold rparse
    rw [if_neg (by decide), if_neg (by decide), ← HM0.out, e2, Ec10.out]
  obtain ⟨v0, v1, v2, hbk⟩ := QS.St.blk HP.out
  have ke := (RCur.cells4 hbk).1.2.2.2
  have HBK := Aside0.mk hbk
  have HNE := Aside0.mk HP.out.h2.2.1
  clear hbk
  by_cases h9 : c10.e = 0
  · have ex_ : rparse 1 8 l = (m9, 0) := by rw [he1, if_neg (fun h => h h9)]
    have EX := Aside0.mk ex_
    have g1 : (c10.e != 0) = false := by rw [h9]; rfl
    have g2 : (c10.e == 0) = true := by rw [h9]; rfl
    clear h9 ex_ he1
    obtain ⟨cx, h_, hz_, hm_⟩ := QS.St.held2 HP.out
    have H := Aside0.mk h_
    have HZ := Aside0.mk hz_
    have HM := Aside0.mk hm_
    have HB := Aside0.mk HP.out.b
    clear h_ hz_ hm_ HP
    go_wp2_with (first | ((with_reducible refine gate_dst (N := 196) rfl ?_); refine ev_load (x := .tmp 9) rfl rfl rfl H.out (i := 1) rfl (HZ.out) ?_) | ((with_reducible refine gate_op (u := .store 30 (.tmp 6) (.tmp 196)) rfl ?_); refine ev_store rfl rfl rfl rfl H.out (i := 0) rfl rfl (HM.out _ ⟨rfl, rfl, rfl, Kept.refl _ _⟩) ?_; intro x91 h3_ h4_; have HE := Aside0.mk (HM.out _ h4_); clear h4_; have n0_ := Aside0.mk (h3_); clear H; have H := n0_; clear n0_; clear h3_))
    refine bodyPost_ret (results_ct rfl _ _ gr 30 _ (0, 0) _ rfl (H.out.at 0 rfl) Try.underlying30 rfl (msg_info (HZ.out))) rfl (by rw [EX.out]; exact ⟨_, rfl, HE.out, H.out.b⟩)
  · have ex_ : rparse 1 8 l = (zeroM, c10.e) := by rw [he1, if_pos h9]
    have EX := Aside0.mk ex_
    have g1 : (c10.e != 0) = true := by simpa using h9
    have g2 : (c10.e == 0) = false := by simpa using h9
    clear h9 ex_ he1
    have H := Aside0.mk (QS.St.held HP.out)
    clear HP
    go_upto_region 38 with (fail)
    clear ke
    refine start_ (n := 7) (S := fun w' => w'.cell? ⟨g, 3, none⟩ = some (.int .i64 c10.e) ∧ Aside0 (Held w0 [(gr, zeroC)] w')) (ds := []) (bm 7 0) (by as_aux_lemma => kernel_rfl) rfl (by as_aux_lemma => kernel_rfl) ⟨((RCur.cells4 (blk_drew HBK.out)).1.2.2.2), (Aside0.mk H.out.drew)⟩ (fun hHeld => ?_)
    refine with_tabW rparse10.tab38 rparse10.bits38 (fun HT_ HW_ => ?_)
    refine pure_ (i := 0) (N := some 191) (v := ?_) (a' := ?_) (bm 7 1) rfl rfl (any_of HT_.out (by as_aux_lemma => kernel_rfl)) (fun _ _ _ h => h) (Or.inl ⟨by rfl, ?_⟩) ?_ ?_
    rotate_left
    · intro w'
      go_simp
      with_reducible rfl
    rotate_left
    · simp only [Act.put, List.setIfInBounds_toArray, List.set_cons_zero, List.set_cons_succ, i64_w, i32_w]
      rfl
    refine pure_ (i := 1) (N := some 192) (v := ?_) (a' := ?_) (bm 7 3) rfl rfl (any_of HT_.out (by as_aux_lemma => kernel_rfl)) (fun _ _ _ h => h) (Or.inl ⟨by rfl, ?_⟩) ?_ ?_
    rotate_left
    · intro w'
      go_simp
      with_reducible rfl
    rotate_left
    · simp only [Act.put, List.setIfInBounds_toArray, List.set_cons_zero, List.set_cons_succ, i64_w, i32_w]
      rfl
    refine pure_ (i := 2) (N := some 193) (v := ?_) (a' := ?_) (bm 7 7) rfl rfl (any_of HT_.out (by as_aux_lemma => kernel_rfl)) (fun _ _ _ h => h) (Or.inl ⟨by rfl, ?_⟩) ?_ ?_
    rotate_left
    · intro w'
      go_simp
      with_reducible rfl
    rotate_left
    · simp only [Act.put, List.setIfInBounds_toArray, List.set_cons_zero, List.set_cons_succ, i64_w, i32_w]
      rfl
    refine pure_ (i := 3) (N := some 194) (v := ?_) (a' := ?_) (bm 7 15) rfl rfl (any_of HT_.out (by as_aux_lemma => kernel_rfl)) (fun _ _ _ h => h) (Or.inl ⟨by rfl, ?_⟩) ?_ ?_
    rotate_left
    · intro w'
      go_simp
      with_reducible rfl
    rotate_left
    · simp only [Act.put, List.setIfInBounds_toArray, List.set_cons_zero, List.set_cons_succ, i64_w, i32_w]
      rfl
    refine take_ (i := 4) (N := some 195) (v := ?_) (a' := ?_) (bm 7 31) rfl rfl (take_ofW HT_.out HW_.out (by as_aux_lemma => kernel_rfl)) (fun _ _ _ h => h) (Or.inl ⟨by rfl, ?_⟩) hHeld ?_ ?_
    rotate_left
    · rintro w' ⟨s0, s1⟩
      go_simp
      with_reducible rfl
    rotate_left
    · simp only [Act.put, List.setIfInBounds_toArray, List.set_cons_zero, List.set_cons_succ, i64_w, i32_w]
      rfl
    refine one_ (i := 5) (N := none) (bm 7 63) rfl rfl (one_of HT_.out (by as_aux_lemma => kernel_rfl)) (by as_aux_lemma => decide) (fun K hK => ?_)
    have Hd_ := Aside0.mk H.out.drew
    clear H
    have H := Hd_
    clear Hd_
    refine store_ (x := .tmp 6) (y := .tmp 191) (by rfl) rfl rfl rfl rfl H.out (i := 0) rfl (rfl) (zero_is w0) ?_
    intro x97 h3_ h4_
    have ke3 := (RCur.cells4 (blk_kept (blk_drew HBK.out) h4_.kept (fun e => HNE.out e.symm))).1.2.2.2
    have n0_ := Aside0.mk (h3_); clear H; have H := n0_; clear n0_; clear h3_ h4_
    refine hK.out _ _ ⟨ke3, H⟩ (fun hHeld => ?_)
    clear hK K
    refine pure_ (i := 6) (N := some 7) (v := ?_) (a' := ?_) (bm 7 127) rfl rfl (any_of HT_.out (by as_aux_lemma => kernel_rfl)) (fun _ _ _ h => h) (Or.inl ⟨by rfl, ?_⟩) ?_ ?_
    rotate_left
    · intro w'
      go_simp
      with_reducible rfl
    rotate_left
    · simp only [Act.put, List.setIfInBounds_toArray, List.set_cons_zero, List.set_cons_succ, i64_w, i32_w]
      rfl
    refine done_ (done_of HT_.out (by as_aux_lemma => kernel_rfl)) ?_
    go_wp2
    refine bodyPost_ret (results_ct rfl _ _ gr 30 _ (0, 0) _ rfl (H.out.at 0 rfl) Try.underlying30 rfl (msg_info (rfl))) rfl (by rw [EX.out]; exact ⟨_, rfl, zero_is _, H.out.b⟩)
theorem parse_1_8 {A : Option Addr} {c : Nat} {l : List Int} {w0 : World} (hr : Kd.C (Kd.int .u8) w0 A l.length l) (hc : l.length ≤ c) (hs : l.length ≤ 1000000) (hb : isBytes l) :
    Calls Try.prog 13 #[.int .i64 1, .int .u8 8, .slice A l.length c] w0 fun en w' => ∃ cx, en = .returned (.tuple #[.agg cx, .int .i64 (rparse 1 8 l).2]) ∧ IsMsg w' cx (rparse 1 8 l).1 ∧ Below w0.heap.size w0 w' := by
  by_cases hz : (⟨l, false, 0⟩ : Cu).wordV = 0
  · exact parse_1_8_e hr hc hs hb hz
  · exact parse_1_8_n hr hc hs hb hz
theorem parse_1_11 {A : Option Addr} {c : Nat} {l : List Int} {w0 : World} (hr : Kd.C (Kd.int .u8) w0 A l.length l) (hc : l.length ≤ c) (hs : l.length ≤ 1000000) (hb : isBytes l) :
    Calls Try.prog 13 #[.int .i64 1, .int .u8 11, .slice A l.length c] w0 fun en w' => ∃ cx, en = .returned (.tuple #[.agg cx, .int .i64 (rparse 1 11 l).2]) ∧ IsMsg w' cx (rparse 1 11 l).1 ∧ Below w0.heap.size w0 w' := by
  have HR := Aside0.mk hr
  have HC := Aside0.mk hc
  have HS := Aside0.mk hs
  have HBB := Aside0.mk hb
  clear hr hc hs hb
  go_enter Try.func13, Try.ntmps13
  go_upto_region 5 with (first | ((with_reducible refine gate_dst (N := 6) rfl ?_); refine ev_alloc rfl rfl ?_; intro gr w1 hg_ h1_ h2_; have HG_ := Aside0.mk hg_; have H1 := Aside0.mk h1_; have H2 := Aside0.mk h2_; clear hg_ h1_ h2_))
  go_upto_region 6 with (first | ((with_reducible refine gate_dst (N := 43) rfl ?_); refine QS.ev_cur rfl rfl rfl ?_; intro g w2 q1_ q2_; have HP := Aside0.mk (QS.Nw.first HR.out HC.out HS.out HBB.out HG_.out H1.out H2.out q1_ q2_); clear q1_ q2_ H1 H2 HG_))
  obtain ⟨c0, e_⟩ : ∃ z, z = (⟨l, false, 0⟩ : Cu) := ⟨_, rfl⟩
  rw [← e_] at HP
  have Ec0 := Aside0.mk e_
  clear e_
  go_upto_region 10 with (first | ((with_reducible refine gate_dst (N := 45) rfl ?_); refine ev_build ((zeroC.setIfInBounds 0 (.int .u8 (11)))) rfl (by go_simp; first | rfl | done) ?_; intro cx hcx_; have M := Aside0.mk (show ∀ W, IsMsg W cx _ from fun W => by rw [hcx_]; exact (fun W => set_code (zero_is W) (v := 11) (by decide)) W); have NL := Aside0.mk (show NilL cx by rw [hcx_]; exact (QS.zero_nil.set (by decide))); clear hcx_) | ((with_reducible refine gate_dst (N := 9) rfl ?_); refine ev_var (y := .tmp 45) rfl rfl rfl rfl rfl (M.out w0) rfl rfl ?_; intro gm w4 hg_ h1_ hb_; have hp_ := QS.Nw.new HP.out hg_ h1_ hb_ M.out NL.out; clear h1_ hb_ hg_; have n0_ := Aside0.mk hp_; clear HP hp_; have HP := n0_; clear n0_))
  clear HR HC HS HBB M NL
  obtain ⟨m0, hm0⟩ : ∃ z, z = ({ zeroM with code := 11 } : Msg) := ⟨_, rfl⟩
  replace HP : Aside0 (QS.St w0 gr g gm w4 c0 { zeroM with code := 11 }) := HP
  rw [← hm0] at HP
  have HM0 := Aside0.mk hm0
  have HMC := Aside0.mk (show m0.code = 11 by rw [hm0])
  clear hm0
  go_upto_region 25 with (fail)
  go_upto_region 26 with (first | (go_at_call 25; obtain ⟨l0, h0⟩ := Cu.wordV_bd (QS.St.good HP.out); (with_reducible refine (QS.St.word HP.out).mono ?_); rintro en x1 ⟨rfl, hp_⟩; obtain ⟨c1, ec_⟩ : ∃ z, z = c0.wordS := ⟨_, rfl⟩; rw [← ec_] at hp_; have Ec1 := Aside0.mk ec_; clear ec_; obtain ⟨kstatus, fstatus⟩ := QS.St.at_status hp_; have n0_ := Aside0.mk hp_; clear HP hp_; have HP := n0_; clear n0_))
  have hp_ := HP.out.put_status ⟨l0, h0⟩
  have n0_ := Aside0.mk hp_
  clear HP hp_
  have HP := n0_
  clear n0_
  obtain ⟨c2, e_⟩ : ∃ z, z = c1.need (c0.wordV == 0 || c0.wordV == 65535) 6 := ⟨_, rfl⟩
  have Ec2 := Aside0.mk e_
  clear e_
  obtain ⟨kstatus, fstatus⟩ := QS.St.at_status HP.out
  go_cut [] from 133 to 143 (fun wx => Aside0 (QS.St w0 gr g gm wx c2 ({ m0 with status := c0.wordV })))
  case first =>
    cases hs0_ : (c0.wordV == 0) with
    | true =>
      have hs0a_ : (c0.wordV != 0) = false := by first | exact hs0_ | (rw [bne, hs0_]; rfl) | (have := hs0_; rw [bne] at this; simpa using this)
      have eb_ : (c0.wordV == 0 || c0.wordV == 65535) = (true) := by first | (simp only [hs0_]; first | rfl | (simp; done)) | (simp [hs0_]; done) | (simp only [bne, hs0_]; first | rfl | (simp; done))
      have EB_ := Aside0.mk eb_
      clear eb_
      go_wp2_with (first | (go_at_call 26; (with_reducible refine (QS.St.need HP.out (true) 6).mono ?_); rintro en x2 ⟨rfl, hp_⟩; have n0_ := Aside0.mk hp_; clear HP hp_; have HP := n0_; clear n0_))
      go_meet
      rw [Ec2.out, EB_.out]
      exact HP
    | false =>
      have hs0a_ : (c0.wordV != 0) = true := by first | exact hs0_ | (rw [bne, hs0_]; rfl) | (have := hs0_; rw [bne] at this; simpa using this)
      have eb_ : (c0.wordV == 0 || c0.wordV == 65535) = (c0.wordV == 65535) := by first | (simp only [hs0_]; first | rfl | (simp; done)) | (simp [hs0_]; done) | (simp only [bne, hs0_]; first | rfl | (simp; done))
      have EB_ := Aside0.mk eb_
      clear eb_
      go_wp2_with (first | (go_at_call 26; (with_reducible refine (QS.St.need HP.out (c0.wordV == 65535) 6).mono ?_); rintro en x2 ⟨rfl, hp_⟩; have n0_ := Aside0.mk hp_; clear HP hp_; have HP := n0_; clear n0_))
      go_meet
      rw [Ec2.out, EB_.out]
      exact HP
  case rest =>
  clear HP
  have HP := hcut
  clear hcut
  clear kstatus fstatus
  go_upto_region 36 with (first | (go_at_call 25; obtain ⟨l2, h2⟩ := Cu.wordV_bd (QS.St.good HP.out); (with_reducible refine (QS.St.word HP.out).mono ?_); rintro en x3 ⟨rfl, hp_⟩; obtain ⟨c3, ec_⟩ : ∃ z, z = c2.wordS := ⟨_, rfl⟩; rw [← ec_] at hp_; have Ec3 := Aside0.mk ec_; clear ec_; obtain ⟨kevents, fevents⟩ := QS.St.at_events hp_; have n0_ := Aside0.mk hp_; clear HP hp_; have HP := n0_; clear n0_))
  have hp_ := HP.out.put_events ⟨l2, h2⟩
  have n0_ := Aside0.mk hp_
  clear HP hp_
  have HP := n0_
  clear n0_
  have eq_ : rbodyR 1 m0 c0 = (c3, { m0 with status := c0.wordV, events := c2.wordV }) := by
    unfold rbodyR ansR
    rw [if_neg (by have := HMC.out; omega), if_pos rfl]
    rw [if_neg (by have := HMC.out; omega)]
    rw [if_pos HMC.out]
    rw [Ec3.out, Ec2.out, Ec1.out]
    rfl
  obtain ⟨cb, e_⟩ : ∃ z, z = rbodyR 1 m0 c0 := ⟨_, rfl⟩
  have EBD := Aside0.mk e_
  rw [eq_] at e_
  obtain ⟨c9, m9⟩ := cb
  obtain ⟨e1_, e2_⟩ := Prod.mk.inj e_
  rw [← e1_, ← e2_] at HP
  clear e_ e1_ e2_ eq_
  go_upto_region 37 with (first | (go_at_call 32; (with_reducible refine (QS.St.fin HP.out).mono ?_); rintro en x61 ⟨rfl, hp_⟩; obtain ⟨c10, ec_⟩ : ∃ z, z = c9.fin := ⟨_, rfl⟩; rw [← ec_] at hp_; have Ec10 := Aside0.mk ec_; clear ec_; have n0_ := Aside0.mk hp_; clear HP hp_; have HP := n0_; clear n0_))
  have he1 : rparse 1 11 l = if c10.e ≠ 0 then (zeroM, c10.e) else (m9, 0) := by
    have e2 : rbodyR 1 m0 (cu l) = (c9, m9) := by rw [EBD.out, Ec0.out]; rfl
    unfold rparse
    rw [if_neg (by decide), if_neg (by decide), ← HM0.out, e2, Ec10.out]
  obtain ⟨v0, v1, v2, hbk⟩ := QS.St.blk HP.out
  have ke := (RCur.cells4 hbk).1.2.2.2
  have HBK := Aside0.mk hbk
  have HNE := Aside0.mk HP.out.h2.2.1
  clear hbk
  by_cases h9 : c10.e = 0
  · have ex_ : rparse 1 11 l = (m9, 0) := by rw [he1, if_neg (fun h => h h9)]
    have EX := Aside0.mk ex_
    have g1 : (c10.e != 0) = false := by rw [h9]; rfl
    have g2 : (c10.e == 0) = true := by rw [h9]; rfl
    clear h9 ex_ he1
    obtain ⟨cx, h_, hz_, hm_⟩ := QS.St.held2 HP.out
    have H := Aside0.mk h_
    have HZ := Aside0.mk hz_
    have HM := Aside0.mk hm_
    have HB := Aside0.mk HP.out.b
    clear h_ hz_ hm_ HP
    go_wp2_with (first | ((with_reducible refine gate_dst (N := 196) rfl ?_); refine ev_load (x := .tmp 9) rfl rfl rfl H.out (i := 1) rfl (HZ.out) ?_) | ((with_reducible refine gate_op (u := .store 30 (.tmp 6) (.tmp 196)) rfl ?_); refine ev_store rfl rfl rfl rfl H.out (i := 0) rfl rfl (HM.out _ ⟨rfl, rfl, rfl, Kept.refl _ _⟩) ?_; intro x91 h3_ h4_; have HE := Aside0.mk (HM.out _ h4_); clear h4_; have n0_ := Aside0.mk (h3_); clear H; have H := n0_; clear n0_; clear h3_))
    refine bodyPost_ret (results_ct rfl _ _ gr 30 _ (0, 0) _ rfl (H.out.at 0 rfl) Try.underlying30 rfl (msg_info (HZ.out))) rfl (by rw [EX.out]; exact ⟨_, rfl, HE.out, H.out.b⟩)
  · have ex_ : rparse 1 11 l = (zeroM, c10.e) := by rw [he1, if_pos h9]
    have EX := Aside0.mk ex_
    have g1 : (c10.e != 0) = true := by simpa using h9
    have g2 : (c10.e == 0) = false := by simpa using h9
    clear h9 ex_ he1
    have H := Aside0.mk (QS.St.held HP.out)
    clear HP
    go_upto_region 38 with (fail)
    clear ke
    refine start_ (n := 7) (S := fun w' => w'.cell? ⟨g, 3, none⟩ = some (.int .i64 c10.e) ∧ Aside0 (Held w0 [(gr, zeroC)] w')) (ds := []) (bm 7 0) (by as_aux_lemma => kernel_rfl) rfl (by as_aux_lemma => kernel_rfl) ⟨((RCur.cells4 (blk_drew HBK.out)).1.2.2.2), (Aside0.mk H.out.drew)⟩ (fun hHeld => ?_)
    refine with_tabW rparse10.tab38 rparse10.bits38 (fun HT_ HW_ => ?_)
    refine pure_ (i := 0) (N := some 191) (v := ?_) (a' := ?_) (bm 7 1) rfl rfl (any_of HT_.out (by as_aux_lemma => kernel_rfl)) (fun _ _ _ h => h) (Or.inl ⟨by rfl, ?_⟩) ?_ ?_
    rotate_left
    · intro w'
      go_simp
      with_reducible rfl
    rotate_left
    · simp only [Act.put, List.setIfInBounds_toArray, List.set_cons_zero, List.set_cons_succ, i64_w, i32_w]
      rfl
    refine pure_ (i := 1) (N := some 192) (v := ?_) (a' := ?_) (bm 7 3) rfl rfl (any_of HT_.out (by as_aux_lemma => kernel_rfl)) (fun _ _ _ h => h) (Or.inl ⟨by rfl, ?_⟩) ?_ ?_
    rotate_left
    · intro w'
      go_simp
      with_reducible rfl
    rotate_left
    · simp only [Act.put, List.setIfInBounds_toArray, List.set_cons_zero, List.set_cons_succ, i64_w, i32_w]
      rfl
    refine pure_ (i := 2) (N := some 193) (v := ?_) (a' := ?_) (bm 7 7) rfl rfl (any_of HT_.out (by as_aux_lemma => kernel_rfl)) (fun _ _ _ h => h) (Or.inl ⟨by rfl, ?_⟩) ?_ ?_
    rotate_left
    · intro w'
      go_simp
      with_reducible rfl
    rotate_left
    · simp only [Act.put, List.setIfInBounds_toArray, List.set_cons_zero, List.set_cons_succ, i64_w, i32_w]
      rfl
    refine pure_ (i := 3) (N := some 194) (v := ?_) (a' := ?_) (bm 7 15) rfl rfl (any_of HT_.out (by as_aux_lemma => kernel_rfl)) (fun _ _ _ h => h) (Or.inl ⟨by rfl, ?_⟩) ?_ ?_
    rotate_left
    · intro w'
      go_simp
      with_reducible rfl
    rotate_left
    · simp only [Act.put, List.setIfInBounds_toArray, List.set_cons_zero, List.set_cons_succ, i64_w, i32_w]
      rfl
    refine take_ (i := 4) (N := some 195) (v := ?_) (a' := ?_) (bm 7 31) rfl rfl (take_ofW HT_.out HW_.out (by as_aux_lemma => kernel_rfl)) (fun _ _ _ h => h) (Or.inl ⟨by rfl, ?_⟩) hHeld ?_ ?_
    rotate_left
    · rintro w' ⟨s0, s1⟩
      go_simp
      with_reducible rfl
    rotate_left
    · simp only [Act.put, List.setIfInBounds_toArray, List.set_cons_zero, List.set_cons_succ, i64_w, i32_w]
      rfl
    refine one_ (i := 5) (N := none) (bm 7 63) rfl rfl (one_of HT_.out (by as_aux_lemma => kernel_rfl)) (by as_aux_lemma => decide) (fun K hK => ?_)
    have Hd_ := Aside0.mk H.out.drew
    clear H
    have H := Hd_
    clear Hd_
    refine store_ (x := .tmp 6) (y := .tmp 191) (by rfl) rfl rfl rfl rfl H.out (i := 0) rfl (rfl) (zero_is w0) ?_
    intro x97 h3_ h4_
    have ke3 := (RCur.cells4 (blk_kept (blk_drew HBK.out) h4_.kept (fun e => HNE.out e.symm))).1.2.2.2
    have n0_ := Aside0.mk (h3_); clear H; have H := n0_; clear n0_; clear h3_ h4_
    refine hK.out _ _ ⟨ke3, H⟩ (fun hHeld => ?_)
    clear hK K
    refine pure_ (i := 6) (N := some 7) (v := ?_) (a' := ?_) (bm 7 127) rfl rfl (any_of HT_.out (by as_aux_lemma => kernel_rfl)) (fun _ _ _ h => h) (Or.inl ⟨by rfl, ?_⟩) ?_ ?_
    rotate_left
    · intro w'
      go_simp
      with_reducible rfl
    rotate_left
    · simp only [Act.put, List.setIfInBounds_toArray, List.set_cons_zero, List.set_cons_succ, i64_w, i32_w]
      rfl
    refine done_ (done_of HT_.out (by as_aux_lemma => kernel_rfl)) ?_
    go_wp2
    refine bodyPost_ret (results_ct rfl _ _ gr 30 _ (0, 0) _ rfl (H.out.at 0 rfl) Try.underlying30 rfl (msg_info (rfl))) rfl (by rw [EX.out]; exact ⟨_, rfl, zero_is _, H.out.b⟩)
theorem parse_1_12 {A : Option Addr} {c : Nat} {l : List Int} {w0 : World} (hr : Kd.C (Kd.int .u8) w0 A l.length l) (hc : l.length ≤ c) (hs : l.length ≤ 1000000) (hb : isBytes l) :
    Calls Try.prog 13 #[.int .i64 1, .int .u8 12, .slice A l.length c] w0 fun en w' => ∃ cx, en = .returned (.tuple #[.agg cx, .int .i64 (rparse 1 12 l).2]) ∧ IsMsg w' cx (rparse 1 12 l).1 ∧ Below w0.heap.size w0 w' := by
  have HR := Aside0.mk hr
  have HC := Aside0.mk hc
  have HS := Aside0.mk hs
  have HBB := Aside0.mk hb
  clear hr hc hs hb
  go_enter Try.func13, Try.ntmps13
  go_upto_region 5 with (first | ((with_reducible refine gate_dst (N := 6) rfl ?_); refine ev_alloc rfl rfl ?_; intro gr w1 hg_ h1_ h2_; have HG_ := Aside0.mk hg_; have H1 := Aside0.mk h1_; have H2 := Aside0.mk h2_; clear hg_ h1_ h2_))
  go_upto_region 6 with (first | ((with_reducible refine gate_dst (N := 43) rfl ?_); refine QS.ev_cur rfl rfl rfl ?_; intro g w2 q1_ q2_; have HP := Aside0.mk (QS.Nw.first HR.out HC.out HS.out HBB.out HG_.out H1.out H2.out q1_ q2_); clear q1_ q2_ H1 H2 HG_))
  obtain ⟨c0, e_⟩ : ∃ z, z = (⟨l, false, 0⟩ : Cu) := ⟨_, rfl⟩
  rw [← e_] at HP
  have Ec0 := Aside0.mk e_
  clear e_
  go_upto_region 10 with (first | ((with_reducible refine gate_dst (N := 45) rfl ?_); refine ev_build ((zeroC.setIfInBounds 0 (.int .u8 (12)))) rfl (by go_simp; first | rfl | done) ?_; intro cx hcx_; have M := Aside0.mk (show ∀ W, IsMsg W cx _ from fun W => by rw [hcx_]; exact (fun W => set_code (zero_is W) (v := 12) (by decide)) W); have NL := Aside0.mk (show NilL cx by rw [hcx_]; exact (QS.zero_nil.set (by decide))); clear hcx_) | ((with_reducible refine gate_dst (N := 9) rfl ?_); refine ev_var (y := .tmp 45) rfl rfl rfl rfl rfl (M.out w0) rfl rfl ?_; intro gm w4 hg_ h1_ hb_; have hp_ := QS.Nw.new HP.out hg_ h1_ hb_ M.out NL.out; clear h1_ hb_ hg_; have n0_ := Aside0.mk hp_; clear HP hp_; have HP := n0_; clear n0_))
  clear HR HC HS HBB M NL
  obtain ⟨m0, hm0⟩ : ∃ z, z = ({ zeroM with code := 12 } : Msg) := ⟨_, rfl⟩
  replace HP : Aside0 (QS.St w0 gr g gm w4 c0 { zeroM with code := 12 }) := HP
  rw [← hm0] at HP
  have HM0 := Aside0.mk hm0
  have HMC := Aside0.mk (show m0.code = 12 by rw [hm0])
  clear hm0
  go_upto_region 29 with (fail)
  go_upto_region 30 with (first | (go_at_call 30; obtain ⟨l0, h0⟩ := Cu.byteV_bd (QS.St.good HP.out); (with_reducible refine (QS.St.byte HP.out).mono ?_); rintro en x1 ⟨rfl, hp_⟩; obtain ⟨c1, ec_⟩ : ∃ z, z = c0.byteS := ⟨_, rfl⟩; rw [← ec_] at hp_; have Ec1 := Aside0.mk ec_; clear ec_; have n0_ := Aside0.mk hp_; clear HP hp_; have HP := n0_; clear n0_))
  have wk := wrap64_id (x := c0.byteV) (by omega) (by omega)
  have wkb : IntKind.i64.wrap (c0.byteV) = c0.byteV := by rw [i64_w]; exact wk
  have w6 : wrap64 (c0.byteV - 6) = c0.byteV - 6 := wrap64_id (by omega) (by omega)
  obtain ⟨c2, e_⟩ : ∃ z, z = c1.need (decide (6 ≤ c0.byteV) && decide (c0.byteV ≤ 70)) 5 := ⟨_, rfl⟩
  have Ec2 := Aside0.mk e_
  clear e_
  go_cut [] from 149 to 160 (fun wx => Aside0 (QS.St w0 gr g gm wx c2 (m0)))
  case first =>
    cases hs0_ : (decide (6 ≤ c0.byteV)) with
    | true =>
      have hs0a_ : (decide (c0.byteV ≥ 6)) = true := by first | exact hs0_ | (rw [bne, hs0_]; rfl) | (have := hs0_; rw [bne] at this; simpa using this)
      have eb_ : (decide (6 ≤ c0.byteV) && decide (c0.byteV ≤ 70)) = (decide (c0.byteV ≤ 70)) := by first | (simp only [hs0_]; first | rfl | (simp; done)) | (simp [hs0_]; done) | (simp only [bne, hs0_]; first | rfl | (simp; done))
      have EB_ := Aside0.mk eb_
      clear eb_
      go_wp2_with (first | (go_at_call 26; (with_reducible refine (QS.St.need HP.out (decide (c0.byteV ≤ 70)) 5).mono ?_); rintro en x2 ⟨rfl, hp_⟩; have n0_ := Aside0.mk hp_; clear HP hp_; have HP := n0_; clear n0_))
      go_meet
      rw [Ec2.out, EB_.out]
      exact HP
    | false =>
      have hs0a_ : (decide (c0.byteV ≥ 6)) = false := by first | exact hs0_ | (rw [bne, hs0_]; rfl) | (have := hs0_; rw [bne] at this; simpa using this)
      have eb_ : (decide (6 ≤ c0.byteV) && decide (c0.byteV ≤ 70)) = (false) := by first | (simp only [hs0_]; first | rfl | (simp; done)) | (simp [hs0_]; done) | (simp only [bne, hs0_]; first | rfl | (simp; done))
      have EB_ := Aside0.mk eb_
      clear eb_
      go_wp2_with (first | (go_at_call 26; (with_reducible refine (QS.St.need HP.out (false) 5).mono ?_); rintro en x2 ⟨rfl, hp_⟩; have n0_ := Aside0.mk hp_; clear HP hp_; have HP := n0_; clear n0_))
      go_meet
      rw [Ec2.out, EB_.out]
      exact HP
  case rest =>
  clear HP
  have HP := hcut
  clear hcut
  go_upto_region 32 with (first | (go_at_call 25; obtain ⟨l2, h2⟩ := Cu.wordV_bd (QS.St.good HP.out); (with_reducible refine (QS.St.word HP.out).mono ?_); rintro en x3 ⟨rfl, hp_⟩; obtain ⟨c3, ec_⟩ : ∃ z, z = c2.wordS := ⟨_, rfl⟩; rw [← ec_] at hp_; have Ec3 := Aside0.mk ec_; clear ec_; obtain ⟨kstatus, fstatus⟩ := QS.St.at_status hp_; have n0_ := Aside0.mk hp_; clear HP hp_; have HP := n0_; clear n0_))
  have hp_ := HP.out.put_status ⟨l2, h2⟩
  have n0_ := Aside0.mk hp_
  clear HP hp_
  have HP := n0_
  clear n0_
  obtain ⟨c4, e_⟩ : ∃ z, z = c3.need (c2.wordV == 0 || c2.wordV == 65535) 6 := ⟨_, rfl⟩
  have Ec4 := Aside0.mk e_
  clear e_
  obtain ⟨kstatus, fstatus⟩ := QS.St.at_status HP.out
  go_cut [] from 163 to 173 (fun wx => Aside0 (QS.St w0 gr g gm wx c4 ({ m0 with status := c2.wordV })))
  case first =>
    cases hs0_ : (c2.wordV == 0) with
    | true =>
      have hs0a_ : (c2.wordV != 0) = false := by first | exact hs0_ | (rw [bne, hs0_]; rfl) | (have := hs0_; rw [bne] at this; simpa using this)
      have eb_ : (c2.wordV == 0 || c2.wordV == 65535) = (true) := by first | (simp only [hs0_]; first | rfl | (simp; done)) | (simp [hs0_]; done) | (simp only [bne, hs0_]; first | rfl | (simp; done))
      have EB_ := Aside0.mk eb_
      clear eb_
      go_wp2_with (first | (go_at_call 26; (with_reducible refine (QS.St.need HP.out (true) 6).mono ?_); rintro en x4 ⟨rfl, hp_⟩; have n0_ := Aside0.mk hp_; clear HP hp_; have HP := n0_; clear n0_))
      go_meet
      rw [Ec4.out, EB_.out]
      exact HP
    | false =>
      have hs0a_ : (c2.wordV != 0) = true := by first | exact hs0_ | (rw [bne, hs0_]; rfl) | (have := hs0_; rw [bne] at this; simpa using this)
      have eb_ : (c2.wordV == 0 || c2.wordV == 65535) = (c2.wordV == 65535) := by first | (simp only [hs0_]; first | rfl | (simp; done)) | (simp [hs0_]; done) | (simp only [bne, hs0_]; first | rfl | (simp; done))
      have EB_ := Aside0.mk eb_
      clear eb_
      go_wp2_with (first | (go_at_call 26; (with_reducible refine (QS.St.need HP.out (c2.wordV == 65535) 6).mono ?_); rintro en x4 ⟨rfl, hp_⟩; have n0_ := Aside0.mk hp_; clear HP hp_; have HP := n0_; clear n0_))
      go_meet
      rw [Ec4.out, EB_.out]
      exact HP
  case rest =>
  clear HP
  have HP := hcut
  clear hcut
  clear kstatus fstatus
  go_upto_region 34 with (first | (go_at_call 25; obtain ⟨l4, h4⟩ := Cu.wordV_bd (QS.St.good HP.out); (with_reducible refine (QS.St.word HP.out).mono ?_); rintro en x5 ⟨rfl, hp_⟩; obtain ⟨c5, ec_⟩ : ∃ z, z = c4.wordS := ⟨_, rfl⟩; rw [← ec_] at hp_; have Ec5 := Aside0.mk ec_; clear ec_; obtain ⟨kevents, fevents⟩ := QS.St.at_events hp_; have n0_ := Aside0.mk hp_; clear HP hp_; have HP := n0_; clear n0_))
  have hp_ := HP.out.put_events ⟨l4, h4⟩
  have n0_ := Aside0.mk hp_
  clear HP hp_
  have HP := n0_
  clear n0_
  go_upto_region 35 with (first | (go_at_call 25; obtain ⟨l5, h5⟩ := Cu.wordV_bd (QS.St.good HP.out); (with_reducible refine (QS.St.word HP.out).mono ?_); rintro en x6 ⟨rfl, hp_⟩; obtain ⟨c6, ec_⟩ : ∃ z, z = c5.wordS := ⟨_, rfl⟩; rw [← ec_] at hp_; have Ec6 := Aside0.mk ec_; clear ec_; obtain ⟨kmessages, fmessages⟩ := QS.St.at_messages hp_; have n0_ := Aside0.mk hp_; clear HP hp_; have HP := n0_; clear n0_))
  have hp_ := HP.out.put_messages ⟨l5, h5⟩
  have n0_ := Aside0.mk hp_
  clear HP hp_
  have HP := n0_
  clear n0_
  have HBY := Aside0.mk (Cu.bytes_bytesV (QS.St.good HP.out) (c0.byteV - 6))
  go_upto_region 36 with (first | (go_at_call 31; (with_reducible refine (QS.St.bytes HP.out (c0.byteV - 6)).mono ?_); rintro en x7 ⟨A5, n5, rfl, hz_, hr_, hp_⟩; obtain ⟨c7, ec_⟩ : ∃ z, z = c6.bytesS (c0.byteV - 6) := ⟨_, rfl⟩; rw [← ec_] at hp_; have Ec7 := Aside0.mk ec_; clear ec_; have R5 := Aside0.mk hr_; have R5z := Aside0.mk hz_; clear hr_ hz_; have n0_ := Aside0.mk hp_; clear HP hp_; have HP := n0_; clear n0_; obtain ⟨Ad, nd, kd, fd⟩ := QS.St.at_data HP.out))
  have hp_ := HP.out.put_data R5z.out HBY.out R5.out
  have n0_ := Aside0.mk hp_
  clear HP hp_
  have HP := n0_
  clear n0_
  have eq_ : rbodyR 1 m0 c0 = (c7, { m0 with status := c2.wordV, events := c4.wordV, messages := c5.wordV, data := c6.bytesV (c0.byteV - 6) }) := by
    unfold rbodyR ansR
    rw [if_neg (by have := HMC.out; omega), if_pos rfl]
    rw [if_neg (by have := HMC.out; omega)]
    rw [if_neg (by have := HMC.out; omega)]
    rw [if_pos HMC.out]
    rw [Ec7.out, Ec6.out, Ec5.out, Ec4.out, Ec3.out, Ec2.out, Ec1.out]
    rfl
  obtain ⟨cb, e_⟩ : ∃ z, z = rbodyR 1 m0 c0 := ⟨_, rfl⟩
  have EBD := Aside0.mk e_
  rw [eq_] at e_
  obtain ⟨c9, m9⟩ := cb
  obtain ⟨e1_, e2_⟩ := Prod.mk.inj e_
  rw [← e1_, ← e2_] at HP
  clear e_ e1_ e2_ eq_
  go_upto_region 37 with (first | (go_at_call 32; (with_reducible refine (QS.St.fin HP.out).mono ?_); rintro en x61 ⟨rfl, hp_⟩; obtain ⟨c10, ec_⟩ : ∃ z, z = c9.fin := ⟨_, rfl⟩; rw [← ec_] at hp_; have Ec10 := Aside0.mk ec_; clear ec_; have n0_ := Aside0.mk hp_; clear HP hp_; have HP := n0_; clear n0_))
  have he1 : rparse 1 12 l = if c10.e ≠ 0 then (zeroM, c10.e) else (m9, 0) := by
    have e2 : rbodyR 1 m0 (cu l) = (c9, m9) := by rw [EBD.out, Ec0.out]; rfl
    unfold rparse
    rw [if_neg (by decide), if_neg (by decide), ← HM0.out, e2, Ec10.out]
  obtain ⟨v0, v1, v2, hbk⟩ := QS.St.blk HP.out
  have ke := (RCur.cells4 hbk).1.2.2.2
  have HBK := Aside0.mk hbk
  have HNE := Aside0.mk HP.out.h2.2.1
  clear hbk
  by_cases h9 : c10.e = 0
  · have ex_ : rparse 1 12 l = (m9, 0) := by rw [he1, if_neg (fun h => h h9)]
    have EX := Aside0.mk ex_
    have g1 : (c10.e != 0) = false := by rw [h9]; rfl
    have g2 : (c10.e == 0) = true := by rw [h9]; rfl
    clear h9 ex_ he1
    obtain ⟨cx, h_, hz_, hm_⟩ := QS.St.held2 HP.out
    have H := Aside0.mk h_
    have HZ := Aside0.mk hz_
    have HM := Aside0.mk hm_
    have HB := Aside0.mk HP.out.b
    clear h_ hz_ hm_ HP
    go_wp2_with (first | ((with_reducible refine gate_dst (N := 196) rfl ?_); refine ev_load (x := .tmp 9) rfl rfl rfl H.out (i := 1) rfl (HZ.out) ?_) | ((with_reducible refine gate_op (u := .store 30 (.tmp 6) (.tmp 196)) rfl ?_); refine ev_store rfl rfl rfl rfl H.out (i := 0) rfl rfl (HM.out _ ⟨rfl, rfl, rfl, Kept.refl _ _⟩) ?_; intro x91 h3_ h4_; have HE := Aside0.mk (HM.out _ h4_); clear h4_; have n0_ := Aside0.mk (h3_); clear H; have H := n0_; clear n0_; clear h3_))
    refine bodyPost_ret (results_ct rfl _ _ gr 30 _ (0, 0) _ rfl (H.out.at 0 rfl) Try.underlying30 rfl (msg_info (HZ.out))) rfl (by rw [EX.out]; exact ⟨_, rfl, HE.out, H.out.b⟩)
  · have ex_ : rparse 1 12 l = (zeroM, c10.e) := by rw [he1, if_pos h9]
    have EX := Aside0.mk ex_
    have g1 : (c10.e != 0) = true := by simpa using h9
    have g2 : (c10.e == 0) = false := by simpa using h9
    clear h9 ex_ he1
    have H := Aside0.mk (QS.St.held HP.out)
    clear HP
    go_upto_region 38 with (fail)
    clear ke
    refine start_ (n := 7) (S := fun w' => w'.cell? ⟨g, 3, none⟩ = some (.int .i64 c10.e) ∧ Aside0 (Held w0 [(gr, zeroC)] w')) (ds := []) (bm 7 0) (by as_aux_lemma => kernel_rfl) rfl (by as_aux_lemma => kernel_rfl) ⟨((RCur.cells4 (blk_drew HBK.out)).1.2.2.2), (Aside0.mk H.out.drew)⟩ (fun hHeld => ?_)
    refine with_tabW rparse10.tab38 rparse10.bits38 (fun HT_ HW_ => ?_)
    refine pure_ (i := 0) (N := some 191) (v := ?_) (a' := ?_) (bm 7 1) rfl rfl (any_of HT_.out (by as_aux_lemma => kernel_rfl)) (fun _ _ _ h => h) (Or.inl ⟨by rfl, ?_⟩) ?_ ?_
    rotate_left
    · intro w'
      go_simp
      with_reducible rfl
    rotate_left
    · simp only [Act.put, List.setIfInBounds_toArray, List.set_cons_zero, List.set_cons_succ, i64_w, i32_w]
      rfl
    refine pure_ (i := 1) (N := some 192) (v := ?_) (a' := ?_) (bm 7 3) rfl rfl (any_of HT_.out (by as_aux_lemma => kernel_rfl)) (fun _ _ _ h => h) (Or.inl ⟨by rfl, ?_⟩) ?_ ?_
    rotate_left
    · intro w'
      go_simp
      with_reducible rfl
    rotate_left
    · simp only [Act.put, List.setIfInBounds_toArray, List.set_cons_zero, List.set_cons_succ, i64_w, i32_w]
      rfl
    refine pure_ (i := 2) (N := some 193) (v := ?_) (a' := ?_) (bm 7 7) rfl rfl (any_of HT_.out (by as_aux_lemma => kernel_rfl)) (fun _ _ _ h => h) (Or.inl ⟨by rfl, ?_⟩) ?_ ?_
    rotate_left
    · intro w'
      go_simp
      with_reducible rfl
    rotate_left
    · simp only [Act.put, List.setIfInBounds_toArray, List.set_cons_zero, List.set_cons_succ, i64_w, i32_w]
      rfl
    refine pure_ (i := 3) (N := some 194) (v := ?_) (a' := ?_) (bm 7 15) rfl rfl (any_of HT_.out (by as_aux_lemma => kernel_rfl)) (fun _ _ _ h => h) (Or.inl ⟨by rfl, ?_⟩) ?_ ?_
    rotate_left
    · intro w'
      go_simp
      with_reducible rfl
    rotate_left
    · simp only [Act.put, List.setIfInBounds_toArray, List.set_cons_zero, List.set_cons_succ, i64_w, i32_w]
      rfl
    refine take_ (i := 4) (N := some 195) (v := ?_) (a' := ?_) (bm 7 31) rfl rfl (take_ofW HT_.out HW_.out (by as_aux_lemma => kernel_rfl)) (fun _ _ _ h => h) (Or.inl ⟨by rfl, ?_⟩) hHeld ?_ ?_
    rotate_left
    · rintro w' ⟨s0, s1⟩
      go_simp
      with_reducible rfl
    rotate_left
    · simp only [Act.put, List.setIfInBounds_toArray, List.set_cons_zero, List.set_cons_succ, i64_w, i32_w]
      rfl
    refine one_ (i := 5) (N := none) (bm 7 63) rfl rfl (one_of HT_.out (by as_aux_lemma => kernel_rfl)) (by as_aux_lemma => decide) (fun K hK => ?_)
    have Hd_ := Aside0.mk H.out.drew
    clear H
    have H := Hd_
    clear Hd_
    refine store_ (x := .tmp 6) (y := .tmp 191) (by rfl) rfl rfl rfl rfl H.out (i := 0) rfl (rfl) (zero_is w0) ?_
    intro x97 h3_ h4_
    have ke3 := (RCur.cells4 (blk_kept (blk_drew HBK.out) h4_.kept (fun e => HNE.out e.symm))).1.2.2.2
    have n0_ := Aside0.mk (h3_); clear H; have H := n0_; clear n0_; clear h3_ h4_
    refine hK.out _ _ ⟨ke3, H⟩ (fun hHeld => ?_)
    clear hK K
    refine pure_ (i := 6) (N := some 7) (v := ?_) (a' := ?_) (bm 7 127) rfl rfl (any_of HT_.out (by as_aux_lemma => kernel_rfl)) (fun _ _ _ h => h) (Or.inl ⟨by rfl, ?_⟩) ?_ ?_
    rotate_left
    · intro w'
      go_simp
      with_reducible rfl
    rotate_left
    · simp only [Act.put, List.setIfInBounds_toArray, List.set_cons_zero, List.set_cons_succ, i64_w, i32_w]
      rfl
    refine done_ (done_of HT_.out (by as_aux_lemma => kernel_rfl)) ?_
    go_wp2
    refine bodyPost_ret (results_ct rfl _ _ gr 30 _ (0, 0) _ rfl (H.out.at 0 rfl) Try.underlying30 rfl (msg_info (rfl))) rfl (by rw [EX.out]; exact ⟨_, rfl, zero_is _, H.out.b⟩)
theorem parse_1_17 {A : Option Addr} {c : Nat} {l : List Int} {w0 : World} (hr : Kd.C (Kd.int .u8) w0 A l.length l) (hc : l.length ≤ c) (hs : l.length ≤ 1000000) (hb : isBytes l) :
    Calls Try.prog 13 #[.int .i64 1, .int .u8 17, .slice A l.length c] w0 fun en w' => ∃ cx, en = .returned (.tuple #[.agg cx, .int .i64 (rparse 1 17 l).2]) ∧ IsMsg w' cx (rparse 1 17 l).1 ∧ Below w0.heap.size w0 w' := by
  have HR := Aside0.mk hr
  have HC := Aside0.mk hc
  have HS := Aside0.mk hs
  have HBB := Aside0.mk hb
  clear hr hc hs hb
  go_enter Try.func13, Try.ntmps13
  go_upto_region 5 with (first | ((with_reducible refine gate_dst (N := 6) rfl ?_); refine ev_alloc rfl rfl ?_; intro gr w1 hg_ h1_ h2_; have HG_ := Aside0.mk hg_; have H1 := Aside0.mk h1_; have H2 := Aside0.mk h2_; clear hg_ h1_ h2_))
  go_upto_region 6 with (first | ((with_reducible refine gate_dst (N := 43) rfl ?_); refine QS.ev_cur rfl rfl rfl ?_; intro g w2 q1_ q2_; have HP := Aside0.mk (QS.Nw.first HR.out HC.out HS.out HBB.out HG_.out H1.out H2.out q1_ q2_); clear q1_ q2_ H1 H2 HG_))
  obtain ⟨c0, e_⟩ : ∃ z, z = (⟨l, false, 0⟩ : Cu) := ⟨_, rfl⟩
  rw [← e_] at HP
  have Ec0 := Aside0.mk e_
  clear e_
  go_upto_region 10 with (first | ((with_reducible refine gate_dst (N := 45) rfl ?_); refine ev_build ((zeroC.setIfInBounds 0 (.int .u8 (17)))) rfl (by go_simp; first | rfl | done) ?_; intro cx hcx_; have M := Aside0.mk (show ∀ W, IsMsg W cx _ from fun W => by rw [hcx_]; exact (fun W => set_code (zero_is W) (v := 17) (by decide)) W); have NL := Aside0.mk (show NilL cx by rw [hcx_]; exact (QS.zero_nil.set (by decide))); clear hcx_) | ((with_reducible refine gate_dst (N := 9) rfl ?_); refine ev_var (y := .tmp 45) rfl rfl rfl rfl rfl (M.out w0) rfl rfl ?_; intro gm w4 hg_ h1_ hb_; have hp_ := QS.Nw.new HP.out hg_ h1_ hb_ M.out NL.out; clear h1_ hb_ hg_; have n0_ := Aside0.mk hp_; clear HP hp_; have HP := n0_; clear n0_))
  clear HR HC HS HBB M NL
  obtain ⟨m0, hm0⟩ : ∃ z, z = ({ zeroM with code := 17 } : Msg) := ⟨_, rfl⟩
  replace HP : Aside0 (QS.St w0 gr g gm w4 c0 { zeroM with code := 17 }) := HP
  rw [← hm0] at HP
  have HM0 := Aside0.mk hm0
  have HMC := Aside0.mk (show m0.code = 17 by rw [hm0])
  clear hm0
  go_upto_region 7 with (fail)
  go_upto_region 8 with (first | (go_at_call 30; obtain ⟨l0, h0⟩ := Cu.byteV_bd (QS.St.good HP.out); (with_reducible refine (QS.St.byte HP.out).mono ?_); rintro en x1 ⟨rfl, hp_⟩; obtain ⟨c1, ec_⟩ : ∃ z, z = c0.byteS := ⟨_, rfl⟩; rw [← ec_] at hp_; have Ec1 := Aside0.mk ec_; clear ec_; have n0_ := Aside0.mk hp_; clear HP hp_; have HP := n0_; clear n0_))
  have wk := wrap64_id (x := c0.byteV) (by omega) (by omega)
  have wkb : IntKind.i64.wrap (c0.byteV) = c0.byteV := by rw [i64_w]; exact wk
  obtain ⟨c2, e_⟩ : ∃ z, z = c1.need (decide (1 ≤ c0.byteV) && decide (c0.byteV ≤ 251)) 5 := ⟨_, rfl⟩
  have Ec2 := Aside0.mk e_
  clear e_
  go_cut [] from 49 to 57 (fun wx => Aside0 (QS.St w0 gr g gm wx c2 (m0)))
  case first =>
    cases hs0_ : (decide (1 ≤ c0.byteV)) with
    | true =>
      have hs0a_ : (decide (c0.byteV ≥ 1)) = true := by first | exact hs0_ | (rw [bne, hs0_]; rfl) | (have := hs0_; rw [bne] at this; simpa using this)
      have eb_ : (decide (1 ≤ c0.byteV) && decide (c0.byteV ≤ 251)) = (decide (c0.byteV ≤ 251)) := by first | (simp only [hs0_]; first | rfl | (simp; done)) | (simp [hs0_]; done) | (simp only [bne, hs0_]; first | rfl | (simp; done))
      have EB_ := Aside0.mk eb_
      clear eb_
      go_wp2_with (first | (go_at_call 26; (with_reducible refine (QS.St.need HP.out (decide (c0.byteV ≤ 251)) 5).mono ?_); rintro en x2 ⟨rfl, hp_⟩; have n0_ := Aside0.mk hp_; clear HP hp_; have HP := n0_; clear n0_))
      go_meet
      rw [Ec2.out, EB_.out]
      exact HP
    | false =>
      have hs0a_ : (decide (c0.byteV ≥ 1)) = false := by first | exact hs0_ | (rw [bne, hs0_]; rfl) | (have := hs0_; rw [bne] at this; simpa using this)
      have eb_ : (decide (1 ≤ c0.byteV) && decide (c0.byteV ≤ 251)) = (false) := by first | (simp only [hs0_]; first | rfl | (simp; done)) | (simp [hs0_]; done) | (simp only [bne, hs0_]; first | rfl | (simp; done))
      have EB_ := Aside0.mk eb_
      clear eb_
      go_wp2_with (first | (go_at_call 26; (with_reducible refine (QS.St.need HP.out (false) 5).mono ?_); rintro en x2 ⟨rfl, hp_⟩; have n0_ := Aside0.mk hp_; clear HP hp_; have HP := n0_; clear n0_))
      go_meet
      rw [Ec2.out, EB_.out]
      exact HP
  case rest =>
  clear HP
  have HP := hcut
  clear hcut
  have HBY := Aside0.mk (Cu.bytes_bytesV (QS.St.good HP.out) c0.byteV)
  go_upto_region 36 with (first | (go_at_call 31; (with_reducible refine (QS.St.bytes HP.out (c0.byteV)).mono ?_); rintro en x3 ⟨A5, n5, rfl, hz_, hr_, hp_⟩; obtain ⟨c3, ec_⟩ : ∃ z, z = c2.bytesS (c0.byteV) := ⟨_, rfl⟩; rw [← ec_] at hp_; have Ec3 := Aside0.mk ec_; clear ec_; have R5 := Aside0.mk hr_; have R5z := Aside0.mk hz_; clear hr_ hz_; have n0_ := Aside0.mk hp_; clear HP hp_; have HP := n0_; clear n0_; obtain ⟨Ad, nd, kd, fd⟩ := QS.St.at_data HP.out))
  have hp_ := HP.out.put_data R5z.out HBY.out R5.out
  have n0_ := Aside0.mk hp_
  clear HP hp_
  have HP := n0_
  clear n0_
  have eq_ : rbodyR 1 m0 c0 = (c3, { m0 with data := c2.bytesV c0.byteV }) := by
    unfold rbodyR ansR
    rw [if_neg (by have := HMC.out; omega), if_pos rfl]
    rw [if_neg (by have := HMC.out; omega)]
    rw [if_neg (by have := HMC.out; omega)]
    rw [if_neg (by have := HMC.out; omega)]
    rw [if_pos HMC.out]
    rw [Ec3.out, Ec2.out, Ec1.out]
    rfl
  obtain ⟨cb, e_⟩ : ∃ z, z = rbodyR 1 m0 c0 := ⟨_, rfl⟩
  have EBD := Aside0.mk e_
  rw [eq_] at e_
  obtain ⟨c9, m9⟩ := cb
  obtain ⟨e1_, e2_⟩ := Prod.mk.inj e_
  rw [← e1_, ← e2_] at HP
  clear e_ e1_ e2_ eq_
  go_upto_region 37 with (first | (go_at_call 32; (with_reducible refine (QS.St.fin HP.out).mono ?_); rintro en x61 ⟨rfl, hp_⟩; obtain ⟨c10, ec_⟩ : ∃ z, z = c9.fin := ⟨_, rfl⟩; rw [← ec_] at hp_; have Ec10 := Aside0.mk ec_; clear ec_; have n0_ := Aside0.mk hp_; clear HP hp_; have HP := n0_; clear n0_))
  have he1 : rparse 1 17 l = if c10.e ≠ 0 then (zeroM, c10.e) else (m9, 0) := by
    have e2 : rbodyR 1 m0 (cu l) = (c9, m9) := by rw [EBD.out, Ec0.out]; rfl
    unfold rparse
    rw [if_neg (by decide), if_neg (by decide), ← HM0.out, e2, Ec10.out]
  obtain ⟨v0, v1, v2, hbk⟩ := QS.St.blk HP.out
  have ke := (RCur.cells4 hbk).1.2.2.2
  have HBK := Aside0.mk hbk
  have HNE := Aside0.mk HP.out.h2.2.1
  clear hbk
  by_cases h9 : c10.e = 0
  · have ex_ : rparse 1 17 l = (m9, 0) := by rw [he1, if_neg (fun h => h h9)]
    have EX := Aside0.mk ex_
    have g1 : (c10.e != 0) = false := by rw [h9]; rfl
    have g2 : (c10.e == 0) = true := by rw [h9]; rfl
    clear h9 ex_ he1
    obtain ⟨cx, h_, hz_, hm_⟩ := QS.St.held2 HP.out
    have H := Aside0.mk h_
    have HZ := Aside0.mk hz_
    have HM := Aside0.mk hm_
    have HB := Aside0.mk HP.out.b
    clear h_ hz_ hm_ HP
    go_wp2_with (first | ((with_reducible refine gate_dst (N := 196) rfl ?_); refine ev_load (x := .tmp 9) rfl rfl rfl H.out (i := 1) rfl (HZ.out) ?_) | ((with_reducible refine gate_op (u := .store 30 (.tmp 6) (.tmp 196)) rfl ?_); refine ev_store rfl rfl rfl rfl H.out (i := 0) rfl rfl (HM.out _ ⟨rfl, rfl, rfl, Kept.refl _ _⟩) ?_; intro x91 h3_ h4_; have HE := Aside0.mk (HM.out _ h4_); clear h4_; have n0_ := Aside0.mk (h3_); clear H; have H := n0_; clear n0_; clear h3_))
    refine bodyPost_ret (results_ct rfl _ _ gr 30 _ (0, 0) _ rfl (H.out.at 0 rfl) Try.underlying30 rfl (msg_info (HZ.out))) rfl (by rw [EX.out]; exact ⟨_, rfl, HE.out, H.out.b⟩)
  · have ex_ : rparse 1 17 l = (zeroM, c10.e) := by rw [he1, if_pos h9]
    have EX := Aside0.mk ex_
    have g1 : (c10.e != 0) = true := by simpa using h9
    have g2 : (c10.e == 0) = false := by simpa using h9
    clear h9 ex_ he1
    have H := Aside0.mk (QS.St.held HP.out)
    clear HP
    go_upto_region 38 with (fail)
    clear ke
    refine start_ (n := 7) (S := fun w' => w'.cell? ⟨g, 3, none⟩ = some (.int .i64 c10.e) ∧ Aside0 (Held w0 [(gr, zeroC)] w')) (ds := []) (bm 7 0) (by as_aux_lemma => kernel_rfl) rfl (by as_aux_lemma => kernel_rfl) ⟨((RCur.cells4 (blk_drew HBK.out)).1.2.2.2), (Aside0.mk H.out.drew)⟩ (fun hHeld => ?_)
    refine with_tabW rparse10.tab38 rparse10.bits38 (fun HT_ HW_ => ?_)
    refine pure_ (i := 0) (N := some 191) (v := ?_) (a' := ?_) (bm 7 1) rfl rfl (any_of HT_.out (by as_aux_lemma => kernel_rfl)) (fun _ _ _ h => h) (Or.inl ⟨by rfl, ?_⟩) ?_ ?_
    rotate_left
    · intro w'
      go_simp
      with_reducible rfl
    rotate_left
    · simp only [Act.put, List.setIfInBounds_toArray, List.set_cons_zero, List.set_cons_succ, i64_w, i32_w]
      rfl
    refine pure_ (i := 1) (N := some 192) (v := ?_) (a' := ?_) (bm 7 3) rfl rfl (any_of HT_.out (by as_aux_lemma => kernel_rfl)) (fun _ _ _ h => h) (Or.inl ⟨by rfl, ?_⟩) ?_ ?_
    rotate_left
    · intro w'
      go_simp
      with_reducible rfl
    rotate_left
    · simp only [Act.put, List.setIfInBounds_toArray, List.set_cons_zero, List.set_cons_succ, i64_w, i32_w]
      rfl
    refine pure_ (i := 2) (N := some 193) (v := ?_) (a' := ?_) (bm 7 7) rfl rfl (any_of HT_.out (by as_aux_lemma => kernel_rfl)) (fun _ _ _ h => h) (Or.inl ⟨by rfl, ?_⟩) ?_ ?_
    rotate_left
    · intro w'
      go_simp
      with_reducible rfl
    rotate_left
    · simp only [Act.put, List.setIfInBounds_toArray, List.set_cons_zero, List.set_cons_succ, i64_w, i32_w]
      rfl
    refine pure_ (i := 3) (N := some 194) (v := ?_) (a' := ?_) (bm 7 15) rfl rfl (any_of HT_.out (by as_aux_lemma => kernel_rfl)) (fun _ _ _ h => h) (Or.inl ⟨by rfl, ?_⟩) ?_ ?_
    rotate_left
    · intro w'
      go_simp
      with_reducible rfl
    rotate_left
    · simp only [Act.put, List.setIfInBounds_toArray, List.set_cons_zero, List.set_cons_succ, i64_w, i32_w]
      rfl
    refine take_ (i := 4) (N := some 195) (v := ?_) (a' := ?_) (bm 7 31) rfl rfl (take_ofW HT_.out HW_.out (by as_aux_lemma => kernel_rfl)) (fun _ _ _ h => h) (Or.inl ⟨by rfl, ?_⟩) hHeld ?_ ?_
    rotate_left
    · rintro w' ⟨s0, s1⟩
      go_simp
      with_reducible rfl
    rotate_left
    · simp only [Act.put, List.setIfInBounds_toArray, List.set_cons_zero, List.set_cons_succ, i64_w, i32_w]
      rfl
    refine one_ (i := 5) (N := none) (bm 7 63) rfl rfl (one_of HT_.out (by as_aux_lemma => kernel_rfl)) (by as_aux_lemma => decide) (fun K hK => ?_)
    have Hd_ := Aside0.mk H.out.drew
    clear H
    have H := Hd_
    clear Hd_
    refine store_ (x := .tmp 6) (y := .tmp 191) (by rfl) rfl rfl rfl rfl H.out (i := 0) rfl (rfl) (zero_is w0) ?_
    intro x97 h3_ h4_
    have ke3 := (RCur.cells4 (blk_kept (blk_drew HBK.out) h4_.kept (fun e => HNE.out e.symm))).1.2.2.2
    have n0_ := Aside0.mk (h3_); clear H; have H := n0_; clear n0_; clear h3_ h4_
    refine hK.out _ _ ⟨ke3, H⟩ (fun hHeld => ?_)
    clear hK K
    refine pure_ (i := 6) (N := some 7) (v := ?_) (a' := ?_) (bm 7 127) rfl rfl (any_of HT_.out (by as_aux_lemma => kernel_rfl)) (fun _ _ _ h => h) (Or.inl ⟨by rfl, ?_⟩) ?_ ?_
    rotate_left
    · intro w'
      go_simp
      with_reducible rfl
    rotate_left
    · simp only [Act.put, List.setIfInBounds_toArray, List.set_cons_zero, List.set_cons_succ, i64_w, i32_w]
      rfl
    refine done_ (done_of HT_.out (by as_aux_lemma => kernel_rfl)) ?_
    go_wp2
    refine bodyPost_ret (results_ct rfl _ _ gr 30 _ (0, 0) _ rfl (H.out.at 0 rfl) Try.underlying30 rfl (msg_info (rfl))) rfl (by rw [EX.out]; exact ⟨_, rfl, zero_is _, H.out.b⟩)
theorem parse_any {dir code : Int} {A : Option Addr} {c : Nat} {l : List Int} {w0 : World} (hr : Kd.C (Kd.int .u8) w0 A l.length l) (hc : l.length ≤ c) (hs : l.length ≤ 1000000) (hb : isBytes l) (hcd : 0 ≤ code ∧ code < 256) :
    Calls Try.prog 13 #[.int .i64 dir, .int .u8 code, .slice A l.length c] w0 fun en w' => ∃ cx, en = .returned (.tuple #[.agg cx, .int .i64 (rparse dir code l).2]) ∧ IsMsg w' cx (rparse dir code l).1 ∧ Below w0.heap.size w0 w' := by
  by_cases h0 : dir = 0
  · subst h0
    by_cases k7 : code = 7
    · subst k7; exact parse_0_7 hr hc hs hb
    by_cases k8 : code = 8
    · subst k8; exact parse_0_8 hr hc hs hb
    by_cases k11 : code = 11
    · subst k11; exact parse_0_11 hr hc hs hb
    by_cases k12 : code = 12
    · subst k12; exact parse_0_12 hr hc hs hb
    by_cases k17 : code = 17
    · subst k17; exact parse_0_17 hr hc hs hb
    have hn : ¬ isCode code := by unfold isCode; omega
    have e : rparse 0 code l = (zeroM, 4) := by unfold rparse; rw [if_neg (by decide), if_pos hn]
    rw [e]; exact parse_no0 hr hc hs hb hcd hn
  by_cases h1 : dir = 1
  · subst h1
    by_cases k7 : code = 7
    · subst k7; exact parse_1_7 hr hc hs hb
    by_cases k8 : code = 8
    · subst k8; exact parse_1_8 hr hc hs hb
    by_cases k11 : code = 11
    · subst k11; exact parse_1_11 hr hc hs hb
    by_cases k12 : code = 12
    · subst k12; exact parse_1_12 hr hc hs hb
    by_cases k17 : code = 17
    · subst k17; exact parse_1_17 hr hc hs hb
    have hn : ¬ isCode code := by unfold isCode; omega
    have e : rparse 1 code l = (zeroM, 4) := by unfold rparse; rw [if_neg (by decide), if_pos hn]
    rw [e]; exact parse_no1 hr hc hs hb hcd hn
  have e : rparse dir code l = (zeroM, 1) := by unfold rparse; rw [if_pos ⟨h0, h1⟩]
  rw [e]; exact parse_dir hr hc hs hb h0 h1
end Go.Proofs.Ytalaochocmcbcaa.DiagR
end
section
namespace Go.Proofs.Ytalaochocmcbcaa.P
open Go.RowKit Go.Proofs.YtalaochocmcbcaaW.PrintWords Go.Proofs.YtalaochocmcbcaaW.PrintLast Go.Proofs.YtalaochocmcbcaaW.PrintMore
attribute [local go_sem] max2_int min2_int max_two min_two max_three min_three max_four min_four   -- for this text's walks alone
def word_Put.l0 : Nat → List Int → List Int → Int → Int → Option (List Int)
  | 0, _, _, _, _ => none
  | k + 1, x3, x6, x7, x8 => if x8 < x7 then (if 0 ≤ x8 then (if x8 < (x6.length : Int) then ((some (([((rd x6 x8) / 256) % 256, (rd x6 x8) % 256] : List Int) : List Int)).bind fun y111 => (if x3.length + y111.length < 140737488355328 then (word_Put.l0 k (x3 ++ y111) x6 x7 (wrap64 (x8 + 1))) else (none))) else (none)) else (none)) else (some x3)
def word_Put.f (k : Nat) (l0 : List Int) : Option (List Int) := word_Put.l0 k ([] : List Int) l0 (l0.length : Int) 0
theorem word_Put.mono_l : ∀ k, (∀ y0 y1 y2 y3, LeO (word_Put.l0 k y0 y1 y2 y3) (word_Put.l0 (k + 1) y0 y1 y2 y3))
  | 0 => fun _ _ _ _ r h => by simp [word_Put.l0] at h
  | k + 1 => by
    have ih0 := word_Put.mono_l k
    · intro y0 y1 y2 y3
      unfold word_Put.l0
      repeat' first
      | (with_reducible exact ih0 _ _ _ _)
      | (with_reducible exact LeO.refl _)
      | (with_reducible exact LeO.none _)
      | (with_reducible refine LeO.ite ?_ ?_)
      | (with_reducible refine LeO.bind ?_ (fun _ => ?_))
      | exact ih0 _ _ _ _
      | exact LeO.none _
      | refine LeO.ite ?_ ?_
      | refine LeO.bind ?_ (fun _ => ?_)
theorem word_Put.mono : ∀ a0 k, LeO (word_Put.f k a0) (word_Put.f (k + 1) a0) := by
  intro a0 k
  have ih0 := word_Put.mono_l k
  unfold word_Put.f
  repeat' first
      | (with_reducible exact ih0 _ _ _ _)
      | (with_reducible exact LeO.refl _)
      | (with_reducible exact LeO.none _)
      | (with_reducible refine LeO.ite ?_ ?_)
      | (with_reducible refine LeO.bind ?_ (fun _ => ?_))
      | exact ih0 _ _ _ _
      | exact LeO.none _
      | refine LeO.ite ?_ ?_
      | refine LeO.bind ?_ (fun _ => ?_)
theorem word_Put.calls (k : Nat) (A0 : Option Addr) (c0 : Nat) (l0 : List Int) (r : List Int) (w : World) (hr0 : Kd.C (Kd.int .u16) w A0 l0.length l0) (hc0 : l0.length ≤ c0) (h : word_Put.f k l0 = some r) :
    Calls Try.prog 49 #[.slice A0 l0.length c0] w fun e w' => ∃ v0_ : Value, e = .returned (v0_) ∧ Kd.R (Kd.int .u8) 5 w' w.heap.size (fun _ => True) v0_ r ∧ Below w.heap.size w w' := by
  have HR0 := Aside0.mk hr0
  have HC0 := Aside0.mk hc0
  clear hr0 hc0
  have HB := Aside0.mk (Below.refl w.heap.size w)
  have H : (word_Put.l0 k ([] : List Int) l0 (l0.length : Int) 0) = some r := h
  clear h
  have H' := Aside0.mk H
  clear H
  go_enter Try.func49, Try.ntmps49
  go_wp2
  go_loopg [3, 8] k (fun kq v3 v8 w' => ∃ (x3_1 : List Int) (x8_1 : Int), v8 = .int .i64 x8_1 ∧ Aside0 (word_Put.l0 kq x3_1 l0 (l0.length : Int) x8_1 = some r) ∧ Aside0 (kq ≤ k) ∧ Aside0 (Kd.R (Kd.int .u8) 5 w' w.heap.size (fun _ => True) v3 x3_1) ∧ Aside0 (Below w.heap.size w w'))
  case atStart => exact ⟨(([] : List Int)), (0), (by first | rfl | (simp; done) | (simp [*]; done)), H', ⟨Nat.le_refl _⟩, ⟨by first | exact Kd.R_nil _ _ _ _ _ | exact Kd.N_nil _ _ _ _ _ | exact Kd.V_nil _ _ _ _ _ | exact Kd.Q_nil _ _ _ _ _ | exact Kd.S_nil _ _ _ _ _⟩, ⟨by repeat (first | (with_reducible first | exact HB.out | apply below_alloc | apply pw_below_drewN | apply below_drew1) | exact HB.out)⟩⟩
  case round =>
    clear H'
    obtain ⟨x3_1, x8_1, rfl, HA, HK1, HO_3, HB⟩ := hrel
    cases gk with
    | zero => exact absurd HA.out (by simp [word_Put.l0])
    | succ k1 =>
      have H := HA.out
      clear HA
      simp only [word_Put.l0] at H
      by_cases c2 : x8_1 < (l0.length : Int)
      · rw [if_pos c2] at H
        have c2b0 : decide (x8_1 < (l0.length : Int)) = true := decide_eq_true c2
        clear c2
        by_cases c3 : 0 ≤ x8_1
        · rw [if_pos c3] at H
          have c3b0 : decide (0 ≤ x8_1) = true := decide_eq_true c3
          clear c3
          by_cases c4 : x8_1 < (l0.length : Int)
          · rw [if_pos c4] at H
            have c4b0 : decide (x8_1 < (l0.length : Int)) = true := decide_eq_true c4
            clear c4
            obtain ⟨y111, hy111⟩ : ∃ y_ : List Int, y_ = (([((rd l0 x8_1) / 256) % 256, (rd l0 x8_1) % 256] : List Int)) := ⟨_, rfl⟩
            replace H : (if x3_1.length + y111.length < 140737488355328 then (word_Put.l0 k1 (x3_1 ++ y111) l0 (l0.length : Int) (wrap64 (x8_1 + 1))) else (none)) = some r := by first | (rw [hy111]; with_reducible exact H) | (have H2_ := (Option.bind_some _ _).symm.trans H; rw [hy111]; with_reducible exact H2_) | (have H2_ := (Option.bind_some _ _).symm.trans H; with_reducible exact H2_) | with_reducible exact H | (rw [hy111]; exact H) | exact H
            have Ny111 := Aside0.mk hy111
            clear hy111
            by_cases c5 : x3_1.length + y111.length < 140737488355328
            · rw [if_pos c5] at H
              have LMc5 := Aside0.mk c5
              clear c5
              obtain ⟨y114, hy114⟩ : ∃ y_ : List Int, y_ = (x3_1 ++ y111) := ⟨_, rfl⟩
              replace H : (word_Put.l0 k1 y114 l0 (l0.length : Int) (wrap64 (x8_1 + 1))) = some r := by first | (rw [hy114]; with_reducible exact H) | (have H2_ := (Option.bind_some _ _).symm.trans H; rw [hy114]; with_reducible exact H2_) | (have H2_ := (Option.bind_some _ _).symm.trans H; with_reducible exact H2_) | with_reducible exact H | (rw [hy114]; exact H) | exact H
              have Ny114 := Aside0.mk hy114
              clear hy114
              have H' := Aside0.mk H
              clear H
              have p110 : 0 ≤ (x8_1 : Int) := of_decide_eq_true (by first | (with_reducible assumption) | assumption)
              have q110 : x8_1 < (l0.length : Int) := of_decide_eq_true (by first | (with_reducible assumption) | assumption)
              obtain ⟨ad110, e110, hx110_0⟩ := Kd.at_int HR0.out x8_1 p110 q110
              cases e110
              replace hx110_0 := (HB.out.cell (World.block_lt_of_cell? w _ hx110_0)).trans hx110_0
              replace p110 := eq_true p110
              replace q110 := eq_true q110
              go_wp2_with (first | ((with_reducible refine gate_dst (N := 18) rfl ?_); refine Kd.R_lit (Kd.int .u8) _ 5 ?hg (N := 18) ?hd (xs := ([((rd l0 x8_1) / 256) % 256, (rd l0 x8_1) % 256] : List Int)) (inner := [.int .u8 (((rd l0 x8_1) / 256) % 256), .int .u8 ((rd l0 x8_1) % 256)]) (ok := fun _ => True) (okp := fun _ => True) ?hr ?hp (fun _ hk => hk) trivial (Below.refl _ _) (Nat.le_refl _) (by simp) ?_; (case hd => rfl); (case hg => rfl); (case hr => first | (go_simp; done) | (go_simp; rfl)); (case hp => exact (Reps.one (show Kd.M (Kd.int .u8) _ _ _ (((rd l0 x8_1) / 256) % 256) [.int .u8 (((rd l0 x8_1) / 256) % 256)] from rfl) (Reps.one (show Kd.M (Kd.int .u8) _ _ _ ((rd l0 x8_1) % 256) [.int .u8 ((rd l0 x8_1) % 256)] from rfl) (Reps.none _ _)))); intro v112 w6 ho7 hb hg_ hnew_; clear hg_ hnew_; (first | rw [← Ny111.out] at ho7 | (simp only [Int.reduceToNat] at ho7; rw [← Ny111.out] at ho7)); have n0_ := Aside0.mk (Kd.R_elder' (by (with_reducible repeat (first | apply Kd.R_alloc | apply Kd.R_drewN | apply Kd.R_drew)); exact HO_3.out) (Kd.R_base ho7) hb); have n1_ := Aside0.mk (Kd.R_lower (Kd.R_new' ho7 (Kd.R_lt (by (with_reducible repeat (first | apply Kd.R_alloc | apply Kd.R_drewN | apply Kd.R_drew)); exact HO_3.out))) (below_size (by repeat (first | (with_reducible first | exact HB.out | apply below_alloc | apply pw_below_drewN | apply below_drew1) | exact HB.out)))); have n2_ := Aside0.mk (below_step (by repeat (first | (with_reducible first | exact HB.out | apply below_alloc | apply pw_below_drewN | apply below_drew1) | exact HB.out)) hb); clear HO_3; clear HB; have HO_3 := n0_; have HO113 := n1_; have HB := n2_; clear n0_ n1_ n2_; clear hb ho7; obtain ⟨Ao9, co9, eo9⟩ := Kd.R_slice HO113.out; subst eo9) | ((with_reducible refine gate_builtin (b := .append) (xs := #[.tmp 12, .tmp 18]) rfl ?_); at_builtin; refine Kd.R_append_rows (Kd.int .u8) (w0 := w) w.heap.size rfl (.tmp 12) (.tmp 18) 22 5 (.int .u8 0) 1 rfl Try.underlying22 info5 rfl (by decide) (by omega) u3 x3_1 y111 _ _ _ (fun k_ => some k_ ≠ (.slice Ao9 y111.length co9 : Value).ownBlock) (fun _ => False) rfl rfl ?aO ?aR (fun _ _ h => h) (fun _ h => h.elim) ?aF ?aB ?aS ?aL ?_; (case aR => repeat (first | exact (Kd.R_reads' HO113.out).2.2 | (with_reducible refine Kd.C_alloc ?_ _) | (with_reducible refine Kd.C_drewN ?_ _) | (with_reducible refine Kd.C_drew ?_))); (case aB => exact (by repeat (first | (with_reducible first | exact HB.out | apply below_alloc | apply pw_below_drewN | apply below_drew1) | exact HB.out))); (case aF => exact (fun k_ hk => Kd.fresh' (Kd.R_lt (by (with_reducible repeat (first | apply Kd.R_alloc | apply Kd.R_drewN | apply Kd.R_drew)); exact HO113.out)) k_ hk)); (case aO => exact (by (with_reducible repeat (first | apply Kd.R_alloc | apply Kd.R_drewN | apply Kd.R_drew)); exact Kd.R_mono HO_3.out (fun _ hk => hk.2))); (case aS => exact (below_size (by repeat (first | (with_reducible first | exact HB.out | apply below_alloc | apply pw_below_drewN | apply below_drew1) | exact HB.out)))); (case aL => have := LMc5.out; omega); intro v115 w8 ho hb hg hat; rw [← Ny114.out] at ho; have n0_ := Aside0.mk (Kd.R_after (ok := (fun _ => True)) (by (with_reducible repeat (first | apply Kd.R_alloc | apply Kd.R_drewN | apply Kd.R_drew)); exact HO113.out) hg hat); have n1_ := Aside0.mk (hb); have n2_ := Aside0.mk (ho); clear HO113; clear HB; clear HO_3; have HO113 := n0_; have HB := n1_; have HO116 := n2_; clear n0_ n1_ n2_; clear ho hb hg hat))
              go_roundg k1
              case measure => have := HK1.out; omega
              case rel => exact ⟨(y114), (wrap64 (x8_1 + 1)), (by first | rfl | (simp; done) | (simp [*]; done)), H', ⟨by have := HK1.out; omega⟩, ⟨by (with_reducible repeat (first | apply Kd.R_alloc | apply Kd.R_drewN | apply Kd.R_drew)); exact Kd.R_mono HO116.out (fun _ hk => trivial)⟩, ⟨by repeat (first | (with_reducible first | exact HB.out | apply below_alloc | apply pw_below_drewN | apply below_drew1) | exact HB.out)⟩⟩
            · rw [if_neg c5] at H
              exact absurd H (by simp)
          · rw [if_neg c4] at H
            exact absurd H (by simp)
        · rw [if_neg c3] at H
          exact absurd H (by simp)
      · rw [if_neg c2] at H
        have c2b0 : decide (x8_1 < (l0.length : Int)) = false := decide_eq_false c2
        clear c2
        obtain rfl := Option.some.inj H
        go_wp2
        go_ret
        exact ⟨_, by first | rfl | (simp [errW_none, errW_some] <;> rfl) | (simp [*, errW_none, errW_some] <;> rfl), by (with_reducible repeat (first | apply Kd.R_alloc | apply Kd.R_drewN | apply Kd.R_drew)); exact HO_3.out, by repeat (first | (with_reducible first | exact HB.out | apply below_alloc | apply pw_below_drewN | apply below_drew1) | exact HB.out)⟩
end Go.Proofs.Ytalaochocmcbcaa.P
end
section
namespace Go.Proofs.Ytalaochocmcbcaa.P
open Go.RowKit Go.Proofs.YtalaochocmcbcaaW.PrintWords Go.Proofs.YtalaochocmcbcaaW.PrintLast Go.Proofs.YtalaochocmcbcaaW.PrintMore
attribute [local go_sem] max2_int min2_int max_two min_two max_three min_three max_four min_four   -- for this text's walks alone
def busbarref04_Put.l0 : Nat → List Int → List Int → Int → Option (List Int)
  | 0, _, _, _ => none
  | k + 1, x0, x3, x4 => if x4 < (x0.length : Int) then (if 0 ≤ x4 then ((some (([(IntKind.u16.wrap (Int.tdiv (rd x0 x4) 256)) % 256, (Int.tmod (rd x0 x4) 256) % 256] : List Int) : List Int)).bind fun y226 => (if x3.length + y226.length < 140737488355328 then (busbarref04_Put.l0 k x0 (x3 ++ y226) (wrap64 (x4 + 1))) else (none))) else (none)) else (some x3)
def busbarref04_Put.f (k : Nat) (l0 : List Int) : Option (List Int) := busbarref04_Put.l0 k l0 ([] : List Int) 0
theorem busbarref04_Put.mono_l : ∀ k, (∀ y0 y1 y2, LeO (busbarref04_Put.l0 k y0 y1 y2) (busbarref04_Put.l0 (k + 1) y0 y1 y2))
  | 0 => fun _ _ _ r h => by simp [busbarref04_Put.l0] at h
  | k + 1 => by
    have ih0 := busbarref04_Put.mono_l k
    · intro y0 y1 y2
      unfold busbarref04_Put.l0
      repeat' first
      | (with_reducible exact ih0 _ _ _)
      | (with_reducible exact LeO.refl _)
      | (with_reducible exact LeO.none _)
      | (with_reducible refine LeO.ite ?_ ?_)
      | (with_reducible refine LeO.bind ?_ (fun _ => ?_))
      | exact ih0 _ _ _
      | exact LeO.none _
      | refine LeO.ite ?_ ?_
      | refine LeO.bind ?_ (fun _ => ?_)
theorem busbarref04_Put.mono : ∀ a0 k, LeO (busbarref04_Put.f k a0) (busbarref04_Put.f (k + 1) a0) := by
  intro a0 k
  have ih0 := busbarref04_Put.mono_l k
  unfold busbarref04_Put.f
  repeat' first
      | (with_reducible exact ih0 _ _ _)
      | (with_reducible exact LeO.refl _)
      | (with_reducible exact LeO.none _)
      | (with_reducible refine LeO.ite ?_ ?_)
      | (with_reducible refine LeO.bind ?_ (fun _ => ?_))
      | exact ih0 _ _ _
      | exact LeO.none _
      | refine LeO.ite ?_ ?_
      | refine LeO.bind ?_ (fun _ => ?_)
def busbarref04_Put.T5 : Bool × List (List Nat × List Nat) := (true, [([], []), ([], []), ([], []), ([1, 2], [1, 2]), ([3], [3]), ([4], [4]), ([5], [5]), ([], []), ([], []), ([7, 8], [7, 8]), ([9], [9]), ([10], [10]), ([11], [11]), ([6, 12], [6, 12]), ([0, 13], [0, 13]), ([14, 14, 0, 1, 2, 3, 4, 5, 6, 7, 8, 9, 10, 11, 12, 13, 14], [0, 14])])
def busbarref04_Put.B5 : List Nat := [0, 0, 0, 6, 14, 30, 62, 0, 0, 384, 896, 1920, 3968, 8190, 16383, 32767]
theorem busbarref04_Put.tab5 : rtab .any (opsOf Try.f57 5) = busbarref04_Put.T5 := by kernel_rfl
theorem busbarref04_Put.bits5 : waitsOk busbarref04_Put.T5.2 busbarref04_Put.B5 = true := by kernel_rfl
theorem busbarref04_Put.calls (k : Nat) (A0 : Option Addr) (c0 : Nat) (l0 : List Int) (r : List Int) (w : World) (hr0 : Kd.C (Kd.int .u16) w A0 l0.length l0) (hc0 : l0.length ≤ c0) (h : busbarref04_Put.f k l0 = some r) :
    Calls Try.prog 57 #[.slice A0 l0.length c0] w fun e w' => ∃ v0_ : Value, e = .returned (v0_) ∧ Kd.R (Kd.int .u8) 5 w' w.heap.size (fun _ => True) v0_ r ∧ Below w.heap.size w w' := by
  have HR0 := Aside0.mk hr0
  have HC0 := Aside0.mk hc0
  clear hr0 hc0
  have HB := Aside0.mk (Below.refl w.heap.size w)
  have H : (busbarref04_Put.l0 k l0 ([] : List Int) 0) = some r := h
  clear h
  have H' := Aside0.mk H
  clear H
  go_enter Try.func57, Try.ntmps57
  go_wp2
  go_loopg [3, 4] k (fun kq v3 v4 w' => ∃ (x3_1 : List Int) (x4_1 : Int), v4 = .int .i64 x4_1 ∧ Aside0 (busbarref04_Put.l0 kq l0 x3_1 x4_1 = some r) ∧ Aside0 (kq ≤ k) ∧ Aside0 (Kd.R (Kd.int .u8) 5 w' w.heap.size (fun _ => True) v3 x3_1) ∧ Aside0 (Below w.heap.size w w'))
  case atStart => exact ⟨(([] : List Int)), (0), (by first | rfl | (simp; done) | (simp [*]; done)), H', ⟨Nat.le_refl _⟩, ⟨by first | exact Kd.R_nil _ _ _ _ _ | exact Kd.N_nil _ _ _ _ _ | exact Kd.V_nil _ _ _ _ _ | exact Kd.Q_nil _ _ _ _ _ | exact Kd.S_nil _ _ _ _ _⟩, ⟨by repeat (first | (with_reducible first | exact HB.out | apply below_alloc | apply pw_below_drewN | apply below_drew1) | exact HB.out)⟩⟩
  case round =>
    clear H'
    obtain ⟨x3_1, x4_1, rfl, HA, HK1, HO_3, HB⟩ := hrel
    cases gk with
    | zero => exact absurd HA.out (by simp [busbarref04_Put.l0])
    | succ k1 =>
      have H := HA.out
      clear HA
      simp only [busbarref04_Put.l0] at H
      by_cases c2 : x4_1 < (l0.length : Int)
      · rw [if_pos c2] at H
        have c2b0 : decide (x4_1 < (l0.length : Int)) = true := decide_eq_true c2
        clear c2
        by_cases c3 : 0 ≤ x4_1
        · rw [if_pos c3] at H
          have c3b0 : decide (0 ≤ x4_1) = true := decide_eq_true c3
          clear c3
          obtain ⟨y226, hy226⟩ : ∃ y_ : List Int, y_ = (([(IntKind.u16.wrap (Int.tdiv (rd l0 x4_1) 256)) % 256, (Int.tmod (rd l0 x4_1) 256) % 256] : List Int)) := ⟨_, rfl⟩
          replace H : (if x3_1.length + y226.length < 140737488355328 then (busbarref04_Put.l0 k1 l0 (x3_1 ++ y226) (wrap64 (x4_1 + 1))) else (none)) = some r := by first | (rw [hy226]; with_reducible exact H) | (have H2_ := (Option.bind_some _ _).symm.trans H; rw [hy226]; with_reducible exact H2_) | (have H2_ := (Option.bind_some _ _).symm.trans H; with_reducible exact H2_) | with_reducible exact H | (rw [hy226]; exact H) | exact H
          have Ny226 := Aside0.mk hy226
          clear hy226
          by_cases c4 : x3_1.length + y226.length < 140737488355328
          · rw [if_pos c4] at H
            have LMc4 := Aside0.mk c4
            clear c4
            obtain ⟨y229, hy229⟩ : ∃ y_ : List Int, y_ = (x3_1 ++ y226) := ⟨_, rfl⟩
            replace H : (busbarref04_Put.l0 k1 l0 y229 (wrap64 (x4_1 + 1))) = some r := by first | (rw [hy229]; with_reducible exact H) | (have H2_ := (Option.bind_some _ _).symm.trans H; rw [hy229]; with_reducible exact H2_) | (have H2_ := (Option.bind_some _ _).symm.trans H; with_reducible exact H2_) | with_reducible exact H | (rw [hy229]; exact H) | exact H
            have Ny229 := Aside0.mk hy229
            clear hy229
            have H' := Aside0.mk H
            clear H
            try go_wp2
            have n0_ := Aside0.mk (Kd.R_drew HO_3.out)
            have n1_ := Aside0.mk (below_drew1 HB.out)
            clear HO_3
            clear HB
            have HO_3 := n0_
            have HB := n1_
            clear n0_ n1_
            have p224 : 0 ≤ (x4_1 : Int) := of_decide_eq_true (by first | (with_reducible assumption) | assumption)
            have q224 : x4_1 < (l0.length : Int) := of_decide_eq_true (by first | (with_reducible assumption) | assumption)
            obtain ⟨ad224, e224, hx224_0⟩ := Kd.at_int HR0.out x4_1 p224 q224
            have hw224_0 := hx224_0
            cases e224
            replace hx224_0 := (HB.out.cell (World.block_lt_of_cell? w _ hx224_0)).trans hx224_0
            replace p224 := eq_true p224
            replace q224 := eq_true q224
            have p225 : 0 ≤ (x4_1 : Int) := of_decide_eq_true (by first | (with_reducible assumption) | assumption)
            have q225 : x4_1 < (l0.length : Int) := of_decide_eq_true (by first | (with_reducible assumption) | assumption)
            obtain ⟨ad225, e225, hx225_0⟩ := Kd.at_int HR0.out x4_1 p225 q225
            have hw225_0 := hx225_0
            obtain rfl : ad224 = ad225 := (by injection e225)
            replace hx225_0 := (HB.out.cell (World.block_lt_of_cell? w _ hx225_0)).trans hx225_0
            replace p225 := eq_true p225
            replace q225 := eq_true q225
            refine start_ (n := 16) (S := fun w' => w'.cell? (ad224.add (x4_1).toNat) = some (.int .u16 (rd l0 x4_1)) ∧ w'.cell? (ad224.add (x4_1).toNat) = some (.int .u16 (rd l0 x4_1))) (ds := []) #[false, false, false, false, false, false, false, false, false, false, false, false, false, false, false, false] (by kernel_rfl) rfl rfl ⟨((HB.out.cell (World.block_lt_of_cell? w _ hw224_0)).trans hw224_0), ((HB.out.cell (World.block_lt_of_cell? w _ hw225_0)).trans hw225_0)⟩ (fun hHeld => ?_); refine with_tabW busbarref04_Put.tab5 busbarref04_Put.bits5 (fun HT_ HW_ => ?_)
            generalize wr.drew = w5 at HO_3 HB hx224_0 hx225_0 hHeld ⊢
            refine pure_ (i := 0) (N := some 11) (v := ?_) (a' := ?_) #[true, false, false, false, false, false, false, false, false, false, false, false, false, false, false, false] rfl rfl (any_of HT_.out (by kernel_rfl)) (fun _ _ _ h => h) (Or.inl ⟨by rfl, ?_⟩) ?_ ?_
            rotate_left
            · intro w'
              go_simp
              with_reducible rfl
            rotate_left
            · simp only [Act.put, List.setIfInBounds_toArray, List.set_cons_zero, List.set_cons_succ, i64_w, i32_w]
              rfl
            refine pure_ (i := 1) (N := some 12) (v := ?_) (a' := ?_) #[true, true, false, false, false, false, false, false, false, false, false, false, false, false, false, false] rfl rfl (any_of HT_.out (by kernel_rfl)) (fun _ _ _ h => h) (Or.inl ⟨by rfl, ?_⟩) ?_ ?_
            rotate_left
            · intro w'
              go_simp
              with_reducible rfl
            rotate_left
            · simp only [Act.put, List.setIfInBounds_toArray, List.set_cons_zero, List.set_cons_succ, i64_w, i32_w]
              rfl
            refine pure_ (i := 2) (N := some 13) (v := ?_) (a' := ?_) #[true, true, true, false, false, false, false, false, false, false, false, false, false, false, false, false] rfl rfl (any_of HT_.out (by kernel_rfl)) (fun _ _ _ h => h) (Or.inl ⟨by rfl, ?_⟩) ?_ ?_
            rotate_left
            · intro w'
              go_simp
              with_reducible rfl
            rotate_left
            · simp only [Act.put, List.setIfInBounds_toArray, List.set_cons_zero, List.set_cons_succ, i64_w, i32_w]
              rfl
            refine pure_ (i := 3) (N := some 14) (v := ?_) (a' := ?_) #[true, true, true, true, false, false, false, false, false, false, false, false, false, false, false, false] rfl rfl (any_of HT_.out (by kernel_rfl)) (fun _ _ _ h => h) (Or.inl ⟨by rfl, ?_⟩) ?_ ?_
            rotate_left
            · intro w'
              go_simp
              with_reducible rfl
            rotate_left
            · simp only [Act.put, List.setIfInBounds_toArray, List.set_cons_zero, List.set_cons_succ, i64_w, i32_w]
              rfl
            refine pure_ (i := 7) (N := some 18) (v := ?_) (a' := ?_) #[true, true, true, true, false, false, false, true, false, false, false, false, false, false, false, false] rfl rfl (any_of HT_.out (by kernel_rfl)) (fun _ _ _ h => h) (Or.inl ⟨by rfl, ?_⟩) ?_ ?_
            rotate_left
            · intro w'
              go_simp
              with_reducible rfl
            rotate_left
            · simp only [Act.put, List.setIfInBounds_toArray, List.set_cons_zero, List.set_cons_succ, i64_w, i32_w]
              rfl
            refine pure_ (i := 8) (N := some 19) (v := ?_) (a' := ?_) #[true, true, true, true, false, false, false, true, true, false, false, false, false, false, false, false] rfl rfl (any_of HT_.out (by kernel_rfl)) (fun _ _ _ h => h) (Or.inl ⟨by rfl, ?_⟩) ?_ ?_
            rotate_left
            · intro w'
              go_simp
              with_reducible rfl
            rotate_left
            · simp only [Act.put, List.setIfInBounds_toArray, List.set_cons_zero, List.set_cons_succ, i64_w, i32_w]
              rfl
            refine pure_ (i := 9) (N := some 20) (v := ?_) (a' := ?_) #[true, true, true, true, false, false, false, true, true, true, false, false, false, false, false, false] rfl rfl (any_of HT_.out (by kernel_rfl)) (fun _ _ _ h => h) (Or.inl ⟨by rfl, ?_⟩) ?_ ?_
            rotate_left
            · intro w'
              go_simp
              with_reducible rfl
            rotate_left
            · simp only [Act.put, List.setIfInBounds_toArray, List.set_cons_zero, List.set_cons_succ, i64_w, i32_w]
              rfl
            refine take_ (i := 4) (N := some 15) (v := ?_) (a' := ?_) #[true, true, true, true, true, false, false, true, true, true, false, false, false, false, false, false] rfl rfl (take_ofW HT_.out HW_.out (by kernel_rfl)) (fun _ _ _ h => h) (Or.inl ⟨by rfl, ?_⟩) hHeld ?_ ?_
            rotate_left
            · rintro w' ⟨s0, s1⟩
              go_simp
              with_reducible rfl
            rotate_left
            · simp only [Act.put, List.setIfInBounds_toArray, List.set_cons_zero, List.set_cons_succ, i64_w, i32_w]
              rfl
            refine pure_ (i := 5) (N := some 16) (v := ?_) (a' := ?_) #[true, true, true, true, true, true, false, true, true, true, false, false, false, false, false, false] rfl rfl (any_of HT_.out (by kernel_rfl)) (fun _ _ _ h => h) (Or.inl ⟨by rfl, ?_⟩) ?_ ?_
            rotate_left
            · intro w'
              go_simp
              with_reducible rfl
            rotate_left
            · simp only [Act.put, List.setIfInBounds_toArray, List.set_cons_zero, List.set_cons_succ, i64_w, i32_w]
              rfl
            refine pure_ (i := 6) (N := some 17) (v := ?_) (a' := ?_) #[true, true, true, true, true, true, true, true, true, true, false, false, false, false, false, false] rfl rfl (any_of HT_.out (by kernel_rfl)) (fun _ _ _ h => h) (Or.inl ⟨by rfl, ?_⟩) ?_ ?_
            rotate_left
            · intro w'
              go_simp
              with_reducible rfl
            rotate_left
            · simp only [Act.put, List.setIfInBounds_toArray, List.set_cons_zero, List.set_cons_succ, i64_w, i32_w]
              rfl
            refine take_ (i := 10) (N := some 21) (v := ?_) (a' := ?_) #[true, true, true, true, true, true, true, true, true, true, true, false, false, false, false, false] rfl rfl (take_ofW HT_.out HW_.out (by kernel_rfl)) (fun _ _ _ h => h) (Or.inl ⟨by rfl, ?_⟩) hHeld ?_ ?_
            rotate_left
            · rintro w' ⟨s0, s1⟩
              go_simp
              with_reducible rfl
            rotate_left
            · simp only [Act.put, List.setIfInBounds_toArray, List.set_cons_zero, List.set_cons_succ, i64_w, i32_w]
              rfl
            refine pure_ (i := 11) (N := some 22) (v := ?_) (a' := ?_) #[true, true, true, true, true, true, true, true, true, true, true, true, false, false, false, false] rfl rfl (any_of HT_.out (by kernel_rfl)) (fun _ _ _ h => h) (Or.inl ⟨by rfl, ?_⟩) ?_ ?_
            rotate_left
            · intro w'
              go_simp
              with_reducible rfl
            rotate_left
            · simp only [Act.put, List.setIfInBounds_toArray, List.set_cons_zero, List.set_cons_succ, i64_w, i32_w]
              rfl
            refine pure_ (i := 12) (N := some 23) (v := ?_) (a' := ?_) #[true, true, true, true, true, true, true, true, true, true, true, true, true, false, false, false] rfl rfl (any_of HT_.out (by kernel_rfl)) (fun _ _ _ h => h) (Or.inl ⟨by rfl, ?_⟩) ?_ ?_
            rotate_left
            · intro w'
              go_simp
              with_reducible rfl
            rotate_left
            · simp only [Act.put, List.setIfInBounds_toArray, List.set_cons_zero, List.set_cons_succ, i64_w, i32_w]
              rfl
            refine one_ (i := 13) (N := some 24) #[true, true, true, true, true, true, true, true, true, true, true, true, true, true, false, false] rfl rfl (one_of HT_.out (by kernel_rfl)) (by decide) (fun K hK => ?_)
            refine Kd.R_lit_step (Kd.int .u8) _ 5 ?hg (N := 24) ?hd (xs := ([(IntKind.u16.wrap (Int.tdiv (rd l0 x4_1) 256)) % 256, (Int.tmod (rd l0 x4_1) 256) % 256] : List Int)) (inner := [.int .u8 ((IntKind.u16.wrap (Int.tdiv (rd l0 x4_1) 256)) % 256), .int .u8 ((Int.tmod (rd l0 x4_1) 256) % 256)]) (ok := fun _ => True) (okp := fun _ => True) ?hr ?hp (fun _ hk => hk) trivial (Below.refl _ _) (Nat.le_refl _) (by simp) ?_; (case hd => rfl); (case hg => rfl); (case hr => first | (go_simp; done) | (go_simp; rfl)); (case hp => exact (Reps.one (show Kd.M (Kd.int .u8) _ _ _ ((IntKind.u16.wrap (Int.tdiv (rd l0 x4_1) 256)) % 256) [.int .u8 ((IntKind.u16.wrap (Int.tdiv (rd l0 x4_1) 256)) % 256)] from rfl) (Reps.one (show Kd.M (Kd.int .u8) _ _ _ ((Int.tmod (rd l0 x4_1) 256) % 256) [.int .u8 ((Int.tmod (rd l0 x4_1) 256) % 256)] from rfl) (Reps.none _ _))))
            intro v227 w6 ho7 hb hg_ hnew_
            clear hg_ hnew_
            (first | rw [← Ny226.out] at ho7 | (simp only [Int.reduceToNat] at ho7; rw [← Ny226.out] at ho7))
            have n0_ := Aside0.mk (Kd.R_elder' (by (with_reducible repeat (first | apply Kd.R_alloc | apply Kd.R_drewN | apply Kd.R_drew)); exact HO_3.out) (Kd.R_base ho7) hb)
            have n1_ := Aside0.mk (Kd.R_lower (Kd.R_new' ho7 (Kd.R_lt (by (with_reducible repeat (first | apply Kd.R_alloc | apply Kd.R_drewN | apply Kd.R_drew)); exact HO_3.out))) (below_size (by repeat (first | (with_reducible first | exact HB.out | apply below_alloc | apply pw_below_drewN | apply below_drew1) | exact HB.out))))
            have n2_ := Aside0.mk (below_step (by repeat (first | (with_reducible first | exact HB.out | apply below_alloc | apply pw_below_drewN | apply below_drew1) | exact HB.out)) hb)
            clear HO_3
            clear HB
            have HO_3 := n0_
            have HO228 := n1_
            have HB := n2_
            clear n0_ n1_ n2_
            clear hb ho7
            obtain ⟨Ao9, co9, eo9⟩ := Kd.R_slice HO228.out
            (first | subst eo9 | (injection eo9 with f1_ f2_ f3_; have f4_ := f1_.symm; have f5_ := f3_.symm; clear f1_ f2_ f3_; subst f4_; subst f5_))
            refine hK.out _ _ ⟨((HB.out.cell (World.block_lt_of_cell? w _ hw224_0)).trans hw224_0), ((HB.out.cell (World.block_lt_of_cell? w _ hw225_0)).trans hw225_0)⟩ (fun hHeld => ?_)
            clear hK K
            refine norm_ (a' := ?_) ?_ ?_
            rotate_left
            · show Act.put _ (some 24) _ = _
              simp only [Act.put, List.setIfInBounds_toArray, List.set_cons_zero, List.set_cons_succ, i64_w, i32_w]
              rfl
            refine one_ (i := 14) (N := some 25) #[true, true, true, true, true, true, true, true, true, true, true, true, true, true, true, false] rfl rfl (one_of HT_.out (by kernel_rfl)) (by decide) (fun K hK => ?_)
            refine Kd.R_append_rows_step (Kd.int .u8) (w0 := w) w.heap.size (by rfl) (.tmp 11) (.tmp 24) 22 5 (.int .u8 0) 1 rfl Try.underlying22 info5 rfl (by decide) (by omega) u3 x3_1 y226 _ _ _ (fun k_ => some k_ ≠ (.slice Ao9 y226.length co9 : Value).ownBlock) (fun _ => False) rfl rfl ?aO ?aR (fun _ _ h => h) (fun _ h => h.elim) ?aF ?aB ?aS ?aL ?_
            (case aR => repeat (first | exact (Kd.R_reads' HO228.out).2.2 | (with_reducible refine Kd.C_alloc ?_ _) | (with_reducible refine Kd.C_drewN ?_ _) | (with_reducible refine Kd.C_drew ?_)))
            (case aB => exact (by repeat (first | (with_reducible first | exact HB.out | apply below_alloc | apply pw_below_drewN | apply below_drew1) | exact HB.out)))
            (case aF => exact (fun k_ hk => Kd.fresh' (Kd.R_lt (by (with_reducible repeat (first | apply Kd.R_alloc | apply Kd.R_drewN | apply Kd.R_drew)); exact HO228.out)) k_ hk))
            (case aO => exact (by (with_reducible repeat (first | apply Kd.R_alloc | apply Kd.R_drewN | apply Kd.R_drew)); exact Kd.R_mono HO_3.out (fun _ hk => hk.2)))
            (case aS => exact (below_size (by repeat (first | (with_reducible first | exact HB.out | apply below_alloc | apply pw_below_drewN | apply below_drew1) | exact HB.out))))
            (case aL => have := LMc4.out; omega)
            intro v230 w8 ho hb hg hat
            rw [← Ny229.out] at ho
            have n0_ := Aside0.mk (Kd.R_after (ok := (fun _ => True)) (by (with_reducible repeat (first | apply Kd.R_alloc | apply Kd.R_drewN | apply Kd.R_drew)); exact HO228.out) hg hat)
            have n1_ := Aside0.mk (hb)
            have n2_ := Aside0.mk (ho)
            clear HO228
            clear HB
            clear HO_3
            have HO228 := n0_
            have HB := n1_
            have HO231 := n2_
            clear n0_ n1_ n2_
            clear ho hb hg hat
            refine hK.out _ _ ⟨((HB.out.cell (World.block_lt_of_cell? w _ hw224_0)).trans hw224_0), ((HB.out.cell (World.block_lt_of_cell? w _ hw225_0)).trans hw225_0)⟩ (fun hHeld => ?_)
            clear hK K
            refine norm_ (a' := ?_) ?_ ?_
            rotate_left
            · show Act.put _ (some 25) _ = _
              simp only [Act.put, List.setIfInBounds_toArray, List.set_cons_zero, List.set_cons_succ, i64_w, i32_w]
              rfl
            refine pure_ (i := 15) (N := some 3) (v := ?_) (a' := ?_) #[true, true, true, true, true, true, true, true, true, true, true, true, true, true, true, true] rfl rfl (any_of HT_.out (by kernel_rfl)) (fun _ _ _ h => h) (Or.inl ⟨by rfl, ?_⟩) ?_ ?_
            rotate_left
            · intro w'
              go_simp
              with_reducible rfl
            rotate_left
            · simp only [Act.put, List.setIfInBounds_toArray, List.set_cons_zero, List.set_cons_succ, i64_w, i32_w]
              rfl
            refine done_ (done_of HT_.out (by kernel_rfl)) ?_
            try go_wp2
            go_roundg k1
            case measure => have := HK1.out; omega
            case rel => exact ⟨(y229), (wrap64 (x4_1 + 1)), (by first | rfl | (simp; done) | (simp [*]; done)), H', ⟨by have := HK1.out; omega⟩, ⟨by (with_reducible repeat (first | apply Kd.R_alloc | apply Kd.R_drewN | apply Kd.R_drew)); exact Kd.R_mono HO231.out (fun _ hk => trivial)⟩, ⟨by repeat (first | (with_reducible first | exact HB.out | apply below_alloc | apply pw_below_drewN | apply below_drew1) | exact HB.out)⟩⟩
          · rw [if_neg c4] at H
            exact absurd H (by simp)
        · rw [if_neg c3] at H
          exact absurd H (by simp)
      · rw [if_neg c2] at H
        have c2b0 : decide (x4_1 < (l0.length : Int)) = false := decide_eq_false c2
        clear c2
        obtain rfl := Option.some.inj H
        go_wp2
        go_ret
        exact ⟨_, by first | rfl | (simp [errW_none, errW_some] <;> rfl) | (simp [*, errW_none, errW_some] <;> rfl), by (with_reducible repeat (first | apply Kd.R_alloc | apply Kd.R_drewN | apply Kd.R_drew)); exact HO_3.out, by repeat (first | (with_reducible first | exact HB.out | apply below_alloc | apply pw_below_drewN | apply below_drew1) | exact HB.out)⟩
end Go.Proofs.Ytalaochocmcbcaa.P
end
section
namespace Go.Proofs.Ytalaochocmcbcaa.Put
open Go.RowKit Go.Proofs.Ytalaochocmcbcaa.P Go.Proofs.Ytalaochocmcbcaa.E Go.Proofs.Ytalaochocmcbcaa.Take Go.Proofs.YtalaochocmcbcaaW.PrintWords Go.Proofs.YtalaochocmcbcaaW.PrintLast Go.Proofs.YtalaochocmcbcaaW.PrintMore
def is16 (ws : List Int) : Prop := ∀ w ∈ ws, 0 ≤ w ∧ w < 65536
def putL : List Int → List Int
  | [] => []
  | w :: r => (w / 256) % 256 :: w % 256 :: putL r
theorem putL_length : ∀ ws : List Int, (putL ws).length = 2 * ws.length
  | [] => rfl
  | w :: r => by simp only [putL, List.length_cons, putL_length r]; omega
theorem putL_append : ∀ a b : List Int, putL (a ++ b) = putL a ++ putL b
  | [], b => rfl
  | w :: r, b => by simp only [List.cons_append, putL, putL_append r b]
theorem putL_bytes : ∀ ws : List Int, isBytes (putL ws)
  | [] => fun x h => by cases h
  | w :: r => fun x hx => by
    rcases List.mem_cons.1 hx with rfl | hx
    · omega
    rcases List.mem_cons.1 hx with rfl | hx
    · omega
    · exact putL_bytes r x hx
theorem words_cons (a b : Int) (t : List Int) (ht : t.length % 2 = 0) : words (a :: b :: t) = (a * 256 + b) :: words t := by
  unfold words
  rw [if_pos (by simp only [List.length_cons]; omega), if_pos ht, show (a :: b :: t).length / 2 = t.length / 2 + 1 by simp only [List.length_cons]; omega]
  unfold pre
  rw [List.range_succ_eq_map, List.map_cons, List.map_map]
  congr 1
theorem words_nil : words [] = [] := rfl
theorem words_putL : ∀ {ws : List Int}, is16 ws → words (putL ws) = ws
  | [], _ => rfl
  | w :: r, h => by
    have h1 := h w List.mem_cons_self
    simp only [putL]
    rw [words_cons _ _ _ (by rw [putL_length]; omega), words_putL (fun x hx => h x (List.mem_cons_of_mem _ hx)), show w / 256 % 256 * 256 + w % 256 = w by omega]
theorem words_facts : ∀ (n : Nat) (l : List Int), l.length = 2 * n → isBytes l → putL (words l) = l ∧ is16 (words l) ∧ (words l).length = n
  | 0, l, hn, _ => by
    obtain rfl : l = [] := List.eq_nil_of_length_eq_zero hn
    refine ⟨rfl, fun x hx => ?_, rfl⟩
    exact absurd hx (by rw [words_nil]; exact List.not_mem_nil)
  | n + 1, [], hn, _ => by
    simp only [List.length_nil] at hn
    omega
  | n + 1, [a], hn, _ => by
    simp only [List.length_cons, List.length_nil] at hn
    omega
  | n + 1, a :: b :: t, hn, hb => by
    have hl : t.length = 2 * n := by simp only [List.length_cons] at hn; omega
    have ha := hb a (by simp)
    have hb1 := hb b (by simp)
    obtain ⟨h1, h2, h3⟩ := words_facts n t hl (fun x hx => hb x (by simp [hx]))
    rw [words_cons a b t (by omega)]
    refine ⟨?_, ?_, by rw [List.length_cons, h3]⟩
    · simp only [putL, h1]
      rw [show (a * 256 + b) / 256 % 256 = a by omega, show (a * 256 + b) % 256 = b by omega]
    · intro x hx
      rcases List.mem_cons.1 hx with rfl | hx
      · omega
      · exact h2 x hx
theorem putL_words {l : List Int} (he : l.length % 2 = 0) (hb : isBytes l) : putL (words l) = l := (words_facts (l.length / 2) l (by omega) hb).1
theorem words_16 {l : List Int} (he : l.length % 2 = 0) (hb : isBytes l) : is16 (words l) := (words_facts (l.length / 2) l (by omega) hb).2.1
theorem words_length {l : List Int} (he : l.length % 2 = 0) (hb : isBytes l) : (words l).length = l.length / 2 := (words_facts (l.length / 2) l (by omega) hb).2.2
theorem put_l0 (ws : List Int) (h : is16 ws) (hl : ws.length ≤ 1000000) : ∀ (d i : Nat), d = ws.length - i → i ≤ ws.length → word_Put.l0 (d + 1) (putL (ws.take i)) ws (ws.length : Int) (i : Int) = some (putL ws) := by
  intro d
  induction d with
  | zero =>
    intro i hd hi
    have e : i = ws.length := by omega
    subst e
    unfold word_Put.l0
    rw [if_neg (by omega), List.take_length]
  | succ d ih =>
    intro i hd hi
    have hlt : i < ws.length := by omega
    have e1 : rd ws (i : Int) = ws.getD i 0 := by simp [rd]
    have e2 : wrap64 ((i : Int) + 1) = ((i + 1 : Nat) : Int) := by rw [wrap64_id (by omega) (by omega)]; omega
    have e3 : ws.take (i + 1) = ws.take i ++ [ws.getD i 0] := by
      rw [List.take_add_one, List.getD_eq_getElem?_getD, List.getElem?_eq_getElem hlt]; rfl
    have h2 := ih (i + 1) (by omega) (by omega)
    rw [e3, putL_append] at h2
    unfold word_Put.l0
    rw [if_pos (show (i : Int) < (ws.length : Int) by omega), if_pos (show (0 : Int) ≤ (i : Int) by omega), if_pos (show (i : Int) < (ws.length : Int) by omega), e1, e2]
    simp only [Option.bind_some]
    rw [if_pos (show (putL (ws.take i)).length + [ws.getD i 0 / 256 % 256, ws.getD i 0 % 256].length < 140737488355328 by rw [putL_length, List.length_take]; simp only [List.length_cons, List.length_nil]; omega)]
    exact h2
theorem put_ev (ws : List Int) (h : is16 ws) (hl : ws.length ≤ 1000000) : Ev (fun k => word_Put.f k ws) (putL ws) := Ev.of (word_Put.mono ws) (k := ws.length + 1) (put_l0 ws h hl ws.length 0 (by omega) (by omega))
theorem rput_l0 (ws : List Int) (h : is16 ws) (hl : ws.length ≤ 1000000) : ∀ (d i : Nat), d = ws.length - i → i ≤ ws.length → busbarref04_Put.l0 (d + 1) ws (putL (ws.take i)) (i : Int) = some (putL ws) := by
  intro d
  induction d with
  | zero =>
    intro i hd hi
    have e : i = ws.length := by omega
    subst e
    unfold busbarref04_Put.l0
    rw [if_neg (by omega), List.take_length]
  | succ d ih =>
    intro i hd hi
    have hlt : i < ws.length := by omega
    have e1 : rd ws (i : Int) = ws.getD i 0 := by simp [rd]
    have e2 : wrap64 ((i : Int) + 1) = ((i + 1 : Nat) : Int) := by rw [wrap64_id (by omega) (by omega)]; omega
    have e3 : ws.take (i + 1) = ws.take i ++ [ws.getD i 0] := by
      rw [List.take_add_one, List.getD_eq_getElem?_getD, List.getElem?_eq_getElem hlt]; rfl
    have h2 := ih (i + 1) (by omega) (by omega)
    rw [e3, putL_append] at h2
    have hb : 0 ≤ ws.getD i 0 ∧ ws.getD i 0 < 65536 := by
      rw [List.getD_eq_getElem?_getD, List.getElem?_eq_getElem hlt]; exact h _ (List.getElem_mem hlt)
    unfold busbarref04_Put.l0
    rw [if_pos (show (i : Int) < (ws.length : Int) by omega), if_pos (show (0 : Int) ≤ (i : Int) by omega), e1, e2, tdiv_id hb.1, tmod_id hb.1, wrap16 (by omega) (by omega), show ws.getD i 0 % 256 % 256 = ws.getD i 0 % 256 by omega]
    simp only [Option.bind_some]
    rw [if_pos (show (putL (ws.take i)).length + [ws.getD i 0 / 256 % 256, ws.getD i 0 % 256].length < 140737488355328 by rw [putL_length, List.length_take]; simp only [List.length_cons, List.length_nil]; omega)]
    exact h2
theorem rput_ev (ws : List Int) (h : is16 ws) (hl : ws.length ≤ 1000000) : Ev (fun k => busbarref04_Put.f k ws) (putL ws) := Ev.of (busbarref04_Put.mono ws) (k := ws.length + 1) (rput_l0 ws h hl ws.length 0 (by omega) (by omega))
theorem is16_2 {a b : Int} (ha : 0 ≤ a ∧ a < 65536) (hb : 0 ≤ b ∧ b < 65536) : is16 [a, b] := fun x hx => by
  rcases List.mem_cons.1 hx with rfl | hx
  · exact ha
  · obtain rfl := List.mem_singleton.1 hx; exact hb
end Go.Proofs.Ytalaochocmcbcaa.Put
end
