/- What the laws of this chapter rest on, part 5: what the functions that they reach answer, each shown once. Conditions: what each theorem states. (Merged by a program of this session, wip/tools/merge.py, out of its own texts and of the words that the kit's print wrote for this seat, cut to those that are used.) -/
import Derived.Deep.Slices
import Derived.Deep.Fields
import Derived.ChangeArms
import Derived.Test.YtalaochocmcbcaaVD
set_option linter.unusedVariables false
set_option linter.unusedSimpArgs false
set_option maxHeartbeats 16000000
set_option maxRecDepth 100000
section
namespace Go.Proofs.Ytalaochocmcbcaa.Com
open Go.RowKit Go.Proofs.Ytalaochocmcbcaa.P Go.Proofs.Ytalaochocmcbcaa.E Go.Proofs.Ytalaochocmcbcaa.Same Go.Proofs.YtalaochocmcbcaaW.PrintWords Go.Proofs.YtalaochocmcbcaaW.PrintLast Go.Proofs.YtalaochocmcbcaaW.PrintMore
def PRob (fn : Nat) (dir code : Int) (l : List Int) (P : Msg × Int) : Prop := ∀ (A : Option Addr) (c : Nat) (W : World), Kd.C (Kd.int .u8) W A l.length l → l.length ≤ c → Calls Try.prog fn #[.int .i64 dir, .int .u8 code, .slice A l.length c] W fun en w' => ∃ cx, en = .returned (.tuple #[.agg cx, .int .i64 P.2]) ∧ (∀ W', Kept w' W' (fun k => k < W.heap.size) → IsMsg W' cx P.1) ∧ Below W.heap.size W w'
theorem PRob.c {fn : Nat} {dir code : Int} {l : List Int} {P : Msg × Int} (h : PRob fn dir code l P) {A : Option Addr} {c : Nat} {W : World} (hr : Kd.C (Kd.int .u8) W A l.length l) (hc : l.length ≤ c) : Calls Try.prog fn #[.int .i64 dir, .int .u8 code, .slice A l.length c] W fun en w' => ∃ cx, en = .returned (.tuple #[.agg cx, .int .i64 P.2]) ∧ (∀ W', Kept w' W' (fun k => k < W.heap.size) → IsMsg W' cx P.1) ∧ Below W.heap.size W w' := h A c W hr hc
theorem R_int_ok {q : IntKind} {e : Nat} {w : World} {base : Nat} {ok ok' : Nat → Prop} {v : Value} {xs : List Int} (h : Kd.R (Kd.int q) e w base ok v xs) (hk : ∀ k, v.ownBlock = some k → ok' k) : Kd.R (Kd.int q) e w base ok' v xs := ⟨hk, h.2.imp_ (fun _ _ hp => hp)⟩
theorem size_alloc (w : World) (x : Obj) : w.heap.size < (w.alloc x).heap.size := by
  rw [World.size_alloc]; exact Nat.lt_succ_self _
theorem kept_alloc {w W' : World} {x : Obj} (h : Kept (w.alloc x) W' (fun k => k = w.heap.size)) {S : Nat → Prop} : Kept w W' S := by
  refine ⟨by have := h.1; rw [World.size_alloc] at this; omega, fun k hk hs => ?_⟩
  have := h.2 k (by rw [World.size_alloc]; omega) (by omega)
  rw [this]
  exact Below.heap_alloc w x k hk
theorem putm_ {ops : Array Oper} {oi : Oper} {a : Act} {w W0 : World} {K : Act → World → Prop} {Q : Exit → Act → World → Prop} {x y : Operand} {g : Nat} {cur cx : Array Value} {m : Msg}
    (hw : Region.wanted oi (yielded ops a.tmps) = true) (hN : oi.dst = none) (ho : oi.op = .store 30 x y) (hx : a.eval x = .pointer (some ⟨g, 0, none⟩)) (hy : a.eval y = .agg cx) (hb : w.heap[g]? = some (.cells cur 30 (0, 0))) (hs : cur.size = 22) (M : IsMsg W0 cx m)
    (h : ∀ w', w'.heap[g]? = some (.cells cx 30 (0, 0)) → Up1 g w w' → K (a.put oi.dst undef) w') : if Region.wanted oi (yielded ops a.tmps) = true then Oper.wp Try.prog oi a w K Q else K (a.put oi.dst undef) w := by
  have hr := run_store_row (P := Try.prog) (ty := 30) hb (hs.trans M.size.symm) (msg_info M.size) M.one
  obtain ⟨b1, b2⟩ := setCells_blk hb (hs.trans M.size.symm)
  have h2 := h _ b1 b2
  rw [hN] at h2 ⊢
  refine skip_ hw hN ?_ h2
  unfold execOp
  simp only [ho, hx, hy, hr, Sem.run_bind, Sem.run_pure, Result.andThen_ok]
theorem alloc_ {ops : Array Oper} {oi : Oper} {a : Act} {w : World} {K : Act → World → Prop} {Q : Exit → Act → World → Prop} (hw : Region.wanted oi (yielded ops a.tmps) = true) (ho : oi.op = .alloc 30)
    (h : K (a.put oi.dst (.pointer (some ⟨w.heap.size, 0, none⟩))) (w.alloc (.cells zeroC 30 (0, 0)))) : if Region.wanted oi (yielded ops a.tmps) = true then Oper.wp Try.prog oi a w K Q else K (a.put oi.dst undef) w :=
  value_ hw rfl (run_alloc_msg a.eval oi ho w) h
def cuts.T11 : Bool × List (List Nat × List Nat) := (true, [([], []), ([], []), ([1], [1]), ([], []), ([], []), ([4], [4]), ([], []), ([6], [6]), ([5, 7], [5, 7]), ([3, 8], [3, 8]), ([0, 2, 9], [0, 2, 9]), ([10], [10]), ([11], [11]), ([11], [11]), ([], []), ([14, 12, 10, 0, 1, 2, 3, 4, 5, 6, 7, 8, 9, 10, 11, 12, 14], [12, 14]), ([13, 15, 0, 1, 2, 3, 4, 5, 6, 7, 8, 9, 10, 11, 12, 13, 14, 15], [13])])
def cuts.B11 : List Nat := [0, 0, 2, 0, 0, 16, 0, 64, 240, 504, 1023, 2047, 4095, 4095, 0, 24575, 65535]
theorem cuts.tab11 : rtab .any (opsOf Try.f10 11) = cuts.T11 := by kernel_rfl
theorem cuts.bits11 : waitsOk cuts.T11.2 cuts.B11 = true := by kernel_rfl
def cuts.T12 : Bool × List (List Nat × List Nat) := (true, [([], []), ([], []), ([1], [1]), ([], []), ([], []), ([3, 4], [3, 4]), ([], []), ([6], [6]), ([5, 7, 5], [5, 7]), ([0, 2, 8, 8], [0, 2, 8]), ([9], [9]), ([10], [10]), ([10], [10]), ([], []), ([13, 11, 9, 0, 1, 2, 3, 4, 5, 6, 7, 8, 9, 10, 11, 13], [11, 13]), ([12, 14, 0, 1, 2, 3, 4, 5, 6, 7, 8, 9, 10, 11, 12, 13, 14], [12])])
def cuts.B12 : List Nat := [0, 0, 2, 0, 0, 24, 0, 64, 248, 511, 1023, 2047, 2047, 0, 12287, 32767]
theorem cuts.tab12 : rtab .any (opsOf Try.f10 12) = cuts.T12 := by kernel_rfl
theorem cuts.bits12 : waitsOk cuts.T12.2 cuts.B12 = true := by kernel_rfl
theorem below_alloc' {w w' : World} (h : Below w.heap.size w w') (o : Obj) : Below w.heap.size w (w'.alloc o) := h.trans ((below_alloc (Below.refl _ _) o).mono h.size)
theorem Cuts_many {response : Bool} {at_ c : Int} {m : Msg} {cx : Array Value} {w : World} (hm : IsMsg w cx m) (ha : AwakeC 11) (hf : fewB m = false) :
    Calls Try.prog 10 #[.bool response, .agg cx, .int .u16 at_, .int .u8 c] w fun en w' => en = .returned (.bool true) ∧ Below w.heap.size w w' := by
  have H := Aside0.mk (Hd.start w)
  have hsz := hm.size
  have hix := msg_info hsz
  have n0_ := Aside0.mk ((((H.out.on (below_alloc (Below.refl _ _) (Obj.cells cx 30)))).add (sta_blk _ _) (blk_new _ _)).add (sta_msg _ _) (hm.on (below_alloc (Below.refl _ _) _)))
  clear H
  have H := n0_
  clear n0_
  have HA := Aside0.mk ha
  clear hm ha
  go_enter Try.func10, Try.ntmps10
  go_upto_region 2 with (first | (go_at_call 11; (with_reducible refine (AwakeC.c HA.out _).mono ?_); rintro en wa ⟨rfl, hb_⟩; have n0_ := Aside0.mk (H.out.on hb_); clear H; have H := n0_; clear n0_; clear hb_))
  go_upto_region 3 with (first | ((with_reducible refine gate_dst (N := 19) rfl ?_); (try (refine gate_guard (by rfl) ?_; dsimp only)); refine ev_get (x := .tmp 5) rfl rfl rfl H.out.f.1.2 H.out.f.2 ?_) | (go_at_call 15; (with_reducible refine (few_msg H.out.f.2).mono ?_); rintro en ws ⟨rfl, hb_⟩; have n0_ := Aside0.mk (H.out.on hb_); clear H; have H := n0_; clear n0_; clear hb_))
  go_wp2
  go_ret
  exact ⟨rfl, H.out.b⟩
theorem same_not {cx cy : Array Value} {x m : Msg} {W : World} (hx : IsMsg W cx x) (hm : IsMsg W cy m) (h : sameB x m = false) : Calls Try.prog 14 #[.agg cx, .agg cy] W fun e w' => e = .returned (.bool false) ∧ Below W.heap.size W w' := by
  have := refsame_msg hx hm
  rw [h] at this
  exact this
theorem Cuts_00 {at_ c : Int} {m : Msg} {cx : Array Value} {w : World} (hm : IsMsg w cx m) (ha : AwakeC 11) (hf : fewB m = true) {R : List Int × Int} (hy : WriteC 16 0 m R) (hr1 : R.2 = 1) :
    Calls Try.prog 10 #[.bool false, .agg cx, .int .u16 at_, .int .u8 c] w fun en w' => en = .returned (.bool true) ∧ Below w.heap.size w w' := by
  have H := Aside0.mk (Hd.start w)
  have hsz := hm.size
  have hix := msg_info hsz
  have n0_ := Aside0.mk ((((H.out.on (below_alloc (Below.refl _ _) (Obj.cells cx 30)))).add (sta_blk _ _) (blk_new _ _)).add (sta_msg _ _) (hm.on (below_alloc (Below.refl _ _) _)))
  clear H
  have H := n0_
  clear n0_
  have HA := Aside0.mk ha
  have HY := Aside0.mk hy
  clear hm ha hy
  have er : (R.2 != 0) = true := by rw [hr1]; rfl
  have er2 : (R.2 == 1) = true := by rw [hr1]; rfl
  clear hr1
  go_enter Try.func10, Try.ntmps10
  go_upto_region 2 with (first | (go_at_call 11; (with_reducible refine (AwakeC.c HA.out _).mono ?_); rintro en wa ⟨rfl, hb_⟩; have n0_ := Aside0.mk (H.out.on hb_); clear H; have H := n0_; clear n0_; clear hb_))
  go_upto_region 3 with (first | ((with_reducible refine gate_dst (N := 19) rfl ?_); (try (refine gate_guard (by rfl) ?_; dsimp only)); refine ev_get (x := .tmp 5) rfl rfl rfl H.out.f.1.2 H.out.f.2 ?_) | (go_at_call 15; (with_reducible refine (few_msg H.out.f.2).mono ?_); rintro en ws ⟨rfl, hb_⟩; have n0_ := Aside0.mk (H.out.on hb_); clear H; have H := n0_; clear n0_; clear hb_))
  go_upto_region 8 with (fail)
  go_upto_region 9 with (first | ((with_reducible refine gate_dst (N := 27) rfl ?_); (try (refine gate_guard (by rfl) ?_; dsimp only)); refine ev_get (x := .tmp 5) rfl rfl rfl H.out.f.1.2 H.out.f.2 ?_) | (go_at_call 16; (with_reducible refine (WriteC.c HY.out H.out.f.2).mono ?_); rintro en wb ⟨Ab, cb, rfl, hz_, hr_, hb_⟩; have n0_ := Aside0.mk ((H.out.on hb_).add (sta_C _ _ _ _) (hr_)); clear H; have H := n0_; clear n0_; have Zb := Aside0.mk hz_; clear hb_ hr_ hz_))
  go_wp2
  go_ret
  exact ⟨by first | rfl | (simp; done), H.out.b⟩
theorem Cuts_0e {at_ c : Int} {m : Msg} {cx : Array Value} {w : World} (hm : IsMsg w cx m) (ha : AwakeC 11) (hf : fewB m = true) {R : List Int × Int} (hy : WriteC 16 0 m R) (hr0 : R.2 = 0) (hl0 : R.1.length = 0) :
    Calls Try.prog 10 #[.bool false, .agg cx, .int .u16 at_, .int .u8 c] w fun en w' => en = .returned (.bool true) ∧ Below w.heap.size w w' := by
  have H := Aside0.mk (Hd.start w)
  have hsz := hm.size
  have hix := msg_info hsz
  have n0_ := Aside0.mk ((((H.out.on (below_alloc (Below.refl _ _) (Obj.cells cx 30)))).add (sta_blk _ _) (blk_new _ _)).add (sta_msg _ _) (hm.on (below_alloc (Below.refl _ _) _)))
  clear H
  have H := n0_
  clear n0_
  have HA := Aside0.mk ha
  have HY := Aside0.mk hy
  clear hm ha hy
  have er : (R.2 != 0) = false := by rw [bne, beq_iff_eq.2 hr0]; rfl
  have er2 : (R.2 == 1) = false := by rw [hr0]; rfl
  have el : ((R.1.length : Int) == 0) = true := beq_iff_eq.2 (by omega)
  have el2 : (R.1.length == 0) = true := beq_iff_eq.2 hl0
  clear hr0
  go_enter Try.func10, Try.ntmps10
  go_upto_region 2 with (first | (go_at_call 11; (with_reducible refine (AwakeC.c HA.out _).mono ?_); rintro en wa ⟨rfl, hb_⟩; have n0_ := Aside0.mk (H.out.on hb_); clear H; have H := n0_; clear n0_; clear hb_))
  go_upto_region 3 with (first | ((with_reducible refine gate_dst (N := 19) rfl ?_); (try (refine gate_guard (by rfl) ?_; dsimp only)); refine ev_get (x := .tmp 5) rfl rfl rfl H.out.f.1.2 H.out.f.2 ?_) | (go_at_call 15; (with_reducible refine (few_msg H.out.f.2).mono ?_); rintro en ws ⟨rfl, hb_⟩; have n0_ := Aside0.mk (H.out.on hb_); clear H; have H := n0_; clear n0_; clear hb_))
  go_upto_region 8 with (fail)
  go_upto_region 9 with (first | ((with_reducible refine gate_dst (N := 27) rfl ?_); (try (refine gate_guard (by rfl) ?_; dsimp only)); refine ev_get (x := .tmp 5) rfl rfl rfl H.out.f.1.2 H.out.f.2 ?_) | (go_at_call 16; (with_reducible refine (WriteC.c HY.out H.out.f.2).mono ?_); rintro en wb ⟨Ab, cb, rfl, hz_, hr_, hb_⟩; have n0_ := Aside0.mk ((H.out.on hb_).add (sta_C _ _ _ _) (hr_)); clear H; have H := n0_; clear n0_; have Zb := Aside0.mk hz_; clear hb_ hr_ hz_))
  go_wp2
  go_ret
  exact ⟨by first | rfl | (simp; done), H.out.b⟩
theorem Cuts_01 {at_ c : Int} {m : Msg} {cx : Array Value} {w : World} (hm : IsMsg w cx m) (ha : AwakeC 11) (hf : fewB m = true) {R : List Int × Int} (hy : WriteC 16 0 m R) {S G : Msg × Int} {k : Nat} (hat : 0 ≤ at_ ∧ at_ < 65536) (hr0 : R.2 = 0) (hlb : R.1.length ≤ 1000000) (hk : Int.tmod at_ (R.1.length : Int) = (k : Int)) (hkl : k < R.1.length) (hs : PRob 12 0 m.code (R.1.take k) S) (hs2 : (S.2 ≠ 0 ∨ (S.2 = 0 ∧ sameB S.1 m = false))) (hg : PRob 12 0 m.code (R.1 ++ [c]) G) (hg2 : (G.2 ≠ 0 ∨ (G.2 = 0 ∧ sameB G.1 m = false))) :
    Calls Try.prog 10 #[.bool false, .agg cx, .int .u16 at_, .int .u8 c] w fun en w' => en = .returned (.bool true) ∧ Below w.heap.size w w' := by
  have H := Aside0.mk (Hd.start w)
  have hsz := hm.size
  have hix := msg_info hsz
  have n0_ := Aside0.mk ((((H.out.on (below_alloc (Below.refl _ _) (Obj.cells cx 30)))).add (sta_blk _ _) (blk_new _ _)).add (sta_msg _ _) (hm.on (below_alloc (Below.refl _ _) _)))
  clear H
  have H := n0_
  clear n0_
  have HA := Aside0.mk ha
  have HY := Aside0.mk hy
  clear hm ha hy
  have er : (R.2 != 0) = false := by rw [bne, beq_iff_eq.2 hr0]; rfl
  have er2 : (R.2 == 0) = true := beq_iff_eq.2 hr0
  have el : ((R.1.length : Int) == 0) = false := beq_eq_false_iff_ne.2 (by omega)
  have el2 : (R.1.length == 0) = false := beq_eq_false_iff_ne.2 (by omega)
  have HK := Aside0.mk hk
  have HKL := Aside0.mk hkl
  have LB := Aside0.mk hlb
  have HG := Aside0.mk hg
  have HP := Aside0.mk hs
  have HAT := Aside0.mk hat
  have HS2 := Aside0.mk hs2
  have HG2 := Aside0.mk hg2
  clear hs2 hg2
  have HS := Aside0.mk (show ∀ (A : Option Addr) (cc : Nat) (W : World), Kd.C (Kd.int .u8) W A R.1.length R.1 → k ≤ cc → Calls Try.prog 12 #[.int .i64 0, .int .u8 m.code, .slice A k cc] W fun en w' => ∃ cx, en = .returned (.tuple #[.agg cx, .int .i64 S.2]) ∧ (∀ W', Kept w' W' (fun k => k < W.heap.size) → IsMsg W' cx S.1) ∧ Below W.heap.size W w' from fun A cc W hC hcc => by have h := PRob.c HP.out (Kd.C_take hC (Nat.le_of_lt HKL.out)) (by rw [List.length_take]; omega) (c := cc); rw [show (R.1.take k).length = k from by rw [List.length_take]; have := HKL.out; omega] at h; exact h)
  clear hr0 hg hs hlb hat
  go_enter Try.func10, Try.ntmps10
  go_upto_region 2 with (first | (go_at_call 11; (with_reducible refine (AwakeC.c HA.out _).mono ?_); rintro en wa ⟨rfl, hb_⟩; have n0_ := Aside0.mk (H.out.on hb_); clear H; have H := n0_; clear n0_; clear hb_))
  go_upto_region 3 with (first | ((with_reducible refine gate_dst (N := 19) rfl ?_); (try (refine gate_guard (by rfl) ?_; dsimp only)); refine ev_get (x := .tmp 5) rfl rfl rfl H.out.f.1.2 H.out.f.2 ?_) | (go_at_call 15; (with_reducible refine (few_msg H.out.f.2).mono ?_); rintro en ws ⟨rfl, hb_⟩; have n0_ := Aside0.mk (H.out.on hb_); clear H; have H := n0_; clear n0_; clear hb_))
  go_upto_region 8 with (fail)
  go_upto_region 9 with (first | ((with_reducible refine gate_dst (N := 27) rfl ?_); (try (refine gate_guard (by rfl) ?_; dsimp only)); refine ev_get (x := .tmp 5) rfl rfl rfl H.out.f.1.2 H.out.f.2 ?_) | (go_at_call 16; (with_reducible refine (WriteC.c HY.out H.out.f.2).mono ?_); rintro en wb ⟨Ab, cb, rfl, hz_, hr_, hb_⟩; have n0_ := Aside0.mk ((H.out.on hb_).add (sta_C _ _ _ _) (hr_)); clear H; have H := n0_; clear n0_; have Zb := Aside0.mk hz_; clear hb_ hr_ hz_))
  go_upto_region 11 with (fail)
  have hne : R.1 ≠ [] := fun e => by have := HKL.out; rw [e] at this; exact absurd this (Nat.not_lt_zero _)
  have hwr : wrap64 at_ = at_ := wrap64_id (by have := HAT.out.1; omega) (by have := HAT.out.2; omega)
  have hcb : ¬ cb = 0 := by have := HKL.out; have := Zb.out; omega
  have hk := HK.out
  have hkl := HKL.out
  have hzb := Zb.out
  have hk2 : k ≤ cb := by omega
  have hn0 : (0 : Int) < (R.1.length : Int) := by omega
  have hki : (k : Int) ≤ (R.1.length : Int) := by omega
  have hkc : (k : Int) ≤ (cb : Int) := by omega
  have hk0 : (0 : Int) ≤ (k : Int) := by omega
  have RBD := Aside0.mk (H.out.dr.f.2)
  have kcd := Aside0.mk (bx_code (H.out.dr.f.1.1.2) (H.out.dr.f.1.2))
  have HB := Aside0.mk (Below.refl wb.drew.heap.size (wb.drew))
  have G9 := Aside0.mk (Nat.lt_of_le_of_lt (Nat.zero_le _) (World.block_lt_of_cell? _ _ kcd.out))
  refine start_ (n := 17) (S := fun w' => True) (ds := []) #[false, false, false, false, false, false, false, false, false, false, false, false, false, false, false, false, false] (by kernel_rfl) rfl rfl trivial (fun hHeld => ?_)
  refine with_tabW cuts.tab11 cuts.bits11 (fun HT_ HW_ => ?_)
  refine pure_ (i := 0) (N := some 49) (v := ?_) (a' := ?_) #[true, false, false, false, false, false, false, false, false, false, false, false, false, false, false, false, false] rfl rfl (any_of HT_.out (by kernel_rfl)) (fun _ _ _ h => h) (Or.inl ⟨by rfl, ?_⟩) ?_ ?_
  rotate_left
  · intro w'
    go_simp
    with_reducible rfl
  rotate_left
  · simp only [Act.put, List.setIfInBounds_toArray, List.set_cons_zero, List.set_cons_succ, i64_w, i32_w]
    rfl
  refine pure_ (i := 1) (N := some 50) (v := ?_) (a' := ?_) #[true, true, false, false, false, false, false, false, false, false, false, false, false, false, false, false, false] rfl rfl (any_of HT_.out (by kernel_rfl)) (fun _ _ _ h => h) (Or.inl ⟨by rfl, ?_⟩) ?_ ?_
  rotate_left
  · intro w'
    go_simp
    with_reducible rfl
  rotate_left
  · simp only [Act.put, List.setIfInBounds_toArray, List.set_cons_zero, List.set_cons_succ, i64_w, i32_w]
    rfl
  refine pure_ (i := 3) (N := some 52) (v := ?_) (a' := ?_) #[true, true, false, true, false, false, false, false, false, false, false, false, false, false, false, false, false] rfl rfl (any_of HT_.out (by kernel_rfl)) (fun _ _ _ h => h) (Or.inl ⟨by rfl, ?_⟩) ?_ ?_
  rotate_left
  · intro w'
    go_simp
    with_reducible rfl
  rotate_left
  · simp only [Act.put, List.setIfInBounds_toArray, List.set_cons_zero, List.set_cons_succ, i64_w, i32_w]
    rfl
  refine pure_ (i := 4) (N := some 53) (v := ?_) (a' := ?_) #[true, true, false, true, true, false, false, false, false, false, false, false, false, false, false, false, false] rfl rfl (any_of HT_.out (by kernel_rfl)) (fun _ _ _ h => h) (Or.inl ⟨by rfl, ?_⟩) ?_ ?_
  rotate_left
  · intro w'
    go_simp
    with_reducible rfl
  rotate_left
  · simp only [Act.put, List.setIfInBounds_toArray, List.set_cons_zero, List.set_cons_succ, i64_w, i32_w]
    rfl
  refine pure_ (i := 5) (N := some 54) (v := ?_) (a' := ?_) #[true, true, false, true, true, true, false, false, false, false, false, false, false, false, false, false, false] rfl rfl (any_of HT_.out (by kernel_rfl)) (fun _ _ _ h => h) (Or.inl ⟨by rfl, ?_⟩) ?_ ?_
  rotate_left
  · intro w'
    go_simp
    with_reducible rfl
  rotate_left
  · simp only [Act.put, List.setIfInBounds_toArray, List.set_cons_zero, List.set_cons_succ, i64_w, i32_w]
    rfl
  refine pure_ (i := 6) (N := some 55) (v := ?_) (a' := ?_) #[true, true, false, true, true, true, true, false, false, false, false, false, false, false, false, false, false] rfl rfl (any_of HT_.out (by kernel_rfl)) (fun _ _ _ h => h) (Or.inl ⟨by rfl, ?_⟩) ?_ ?_
  rotate_left
  · intro w'
    go_simp
    with_reducible rfl
  rotate_left
  · simp only [Act.put, List.setIfInBounds_toArray, List.set_cons_zero, List.set_cons_succ, i64_w, i32_w]
    rfl
  refine pure_ (i := 7) (N := some 56) (v := ?_) (a' := ?_) #[true, true, false, true, true, true, true, true, false, false, false, false, false, false, false, false, false] rfl rfl (any_of HT_.out (by kernel_rfl)) (fun _ _ _ h => h) (Or.inl ⟨by rfl, ?_⟩) ?_ ?_
  rotate_left
  · intro w'
    go_simp
    with_reducible rfl
  rotate_left
  · simp only [Act.put, List.setIfInBounds_toArray, List.set_cons_zero, List.set_cons_succ, i64_w, i32_w]
    rfl
  refine pure_ (i := 8) (N := some 57) (v := ?_) (a' := ?_) #[true, true, false, true, true, true, true, true, true, false, false, false, false, false, false, false, false] rfl rfl (any_of HT_.out (by kernel_rfl)) (fun _ _ _ h => h) (Or.inl ⟨by rfl, ?_⟩) ?_ ?_
  rotate_left
  · intro w'
    go_simp
    with_reducible rfl
  rotate_left
  · simp only [Act.put, List.setIfInBounds_toArray, List.set_cons_zero, List.set_cons_succ, i64_w, i32_w]
    rfl
  refine pure_ (i := 9) (N := some 58) (v := ?_) (a' := ?_) #[true, true, false, true, true, true, true, true, true, true, false, false, false, false, false, false, false] rfl rfl (any_of HT_.out (by kernel_rfl)) (fun _ _ _ h => h) (Or.inl ⟨by rfl, ?_⟩) ?_ ?_
  rotate_left
  · intro w'
    go_simp
    with_reducible rfl
  rotate_left
  · simp only [Act.put, List.setIfInBounds_toArray, List.set_cons_zero, List.set_cons_succ, i64_w, i32_w]
    rfl
  refine inv_at [2, 10, 11, 12, 13, 14, 15, 16] (fun a0_ b a w' => ∃ (cx9 : Array Value) (g9 : Nat) (m10_ : Value) (m11_ : Value) (m12_ : Value) (m14_ : Value), a = putSel a0_ b [(2, 51, .int .u8 m.code), (10, 59, m10_), (11, 48, m11_), (12, 60, m12_), (13, 61, .int .i64 S.2), (14, 14, m14_), (16, 15, .int .i64 S.2)] ∧ (Below wb.drew.heap.size wb.drew w') ∧ (g9 < w'.heap.size) ∧ (b 10 = true → ∀ W', Kept w' W' (fun k => k = g9) → IsMsg W' cx9 S.1) ∧ (b 14 = true → b 15 = false → w'.heap[g9]? = some (.cells zeroC 30 (0, 0)) ∧ wb.drew.heap.size ≤ g9) ∧ (b 15 = true → w'.heap[g9]? = some (.cells cx9 30 (0, 0))) ∧ (b 10 = true → (m10_ : Value) = .tuple #[.agg cx9, .int .i64 S.2]) ∧ (b 11 = true → (m11_ : Value) = .tuple #[.agg cx9, .int .i64 S.2]) ∧ (b 12 = true → (m12_ : Value) = .agg cx9) ∧ (b 14 = true → (m14_ : Value) = .pointer (some ⟨g9, 0, none⟩))) HT_.out HW_.out (by kernel_rfl) (by kernel_rfl) ?_ ?_ ?_
  · exact ⟨#[], 0, .bool false, .bool false, .bool false, .bool false, by simp only [putSel, Bool.false_eq_true, if_false], HB.out, G9.out, fun h_ => absurd h_ (by decide), fun h_ => absurd h_ (by decide), fun h_ => absurd h_ (by decide), fun h_ => absurd h_ (by decide), fun h_ => absurd h_ (by decide), fun h_ => absurd h_ (by decide), fun h_ => absurd h_ (by decide)⟩
  · skip
    clear G9 HB
    refine steps_cons ?_ ?_
    · rintro b a w' ⟨cx9, g9, m10_, m11_, m12_, m14_, ha, Q_HB, Q_G9, Q_M9, Q_B9, Q_C9, Q_X10_, Q_X11_, Q_X12_, Q_X14_⟩ hb_ hon hoff
      refine ⟨_, rfl, fun K hK => ?_⟩
      have e50 : a.tmps[50]? = some (.pointer (some ⟨w.heap.size, 0, none⟩)) := by rw [ha]; exact (putSel_off rfl).trans rfl
      replace ha := Aside0.mk ha
      have HB := Aside0.mk Q_HB
      have G9 := Aside0.mk Q_G9
      have hs2_ : w'.cell? ⟨w.heap.size, 0, none⟩ = some (.int .u8 m.code) := (HB.out.cell (World.block_lt_of_cell? _ _ kcd.out)).trans kcd.out
      refine value_ (w1 := w') (v := .int .u8 m.code) (by rfl) rfl ?_ ?_
      · go_simp
        (try simp only [i64_w])
        try rfl
      refine hK.out _ _ ⟨cx9, g9, m10_, m11_, m12_, m14_, (by rw [ha.out]; exact putSel_upk 0 hb_ rfl rfl rfl), Q_HB, Q_G9, fun h0_ => absurd ((hoff 10 (by kernel_rfl)).symm.trans h0_) (by decide), Q_B9, fun h0_ => absurd ((hoff 15 (by kernel_rfl)).symm.trans h0_) (by decide), fun h0_ => absurd ((hoff 10 (by kernel_rfl)).symm.trans h0_) (by decide), fun h0_ => absurd ((hoff 11 (by kernel_rfl)).symm.trans h0_) (by decide), fun h0_ => absurd ((hoff 12 (by kernel_rfl)).symm.trans h0_) (by decide), Q_X14_⟩
    refine steps_cons ?_ ?_
    · rintro b a w' ⟨cx9, g9, m10_, m11_, m12_, m14_, ha, Q_HB, Q_G9, Q_M9, Q_B9, Q_C9, Q_X10_, Q_X11_, Q_X12_, Q_X14_⟩ hb_ hon hoff
      refine ⟨_, rfl, fun K hK => ?_⟩
      have e49 : a.tmps[49]? = some (.int .i64 0) := by rw [ha]; exact (putSel_off rfl).trans rfl
      have e51 : a.tmps[51]? = some (.int .u8 m.code) := by rw [ha]; exact putSel_on (e := (2, 51, .int .u8 m.code)) 0 rfl rfl (hon 2 (by kernel_rfl)) rfl
      have e58 : a.tmps[58]? = some (.slice Ab k cb) := by rw [ha]; exact (putSel_off rfl).trans rfl
      replace ha := Aside0.mk ha
      have HB := Aside0.mk Q_HB
      have G9 := Aside0.mk Q_G9
      refine goes_ Try.func12 (by kernel_rfl) rfl #[.int .i64 0, .int .u8 m.code, .slice Ab k cb] (by rfl) rfl rfl (by first | (simp only [List.map_toArray, List.map_cons, List.map_nil, Act.eval, Array.getD_eq_getD_getElem?, Option.getD_some, e49, e51, e58]; done) | (simp only [List.map_toArray, List.map_cons, List.map_nil, Act.eval, Array.getD_eq_getD_getElem?, Option.getD_some, e49, e51, e58]; rfl)) ?_
      with_reducible refine (HS.out Ab cb _ (Kd.C_below RBD.out HB.out) (Nat.le_trans (Nat.le_of_lt HKL.out) Zb.out)).mono ?_
      rintro en w2 ⟨ncx_, rfl, nm_, hB_⟩
      refine ⟨_, rfl, ?_⟩
      have z_B9 := fun (h0_ : b 14 = true) (h1_ : b 15 = false) => (show w2.heap[g9]? = some (.cells zeroC 30 (0, 0)) ∧ wb.drew.heap.size ≤ g9 from ⟨blk_below (Q_B9 h0_ h1_).1 hB_, (Q_B9 h0_ h1_).2⟩)
      refine hK.out _ _ ⟨ncx_, g9, (.tuple #[.agg ncx_, .int .i64 S.2]), m11_, m12_, m14_, (by rw [ha.out]; exact putSel_upk 1 hb_ rfl rfl rfl), HB.out.trans (hB_.mono HB.out.size), Nat.lt_of_lt_of_le G9.out hB_.size, fun _ => (fun W' hk_ => nm_ W' (hk_.mono fun j hj => by rw [hj]; exact G9.out)), z_B9, fun h0_ => absurd ((hoff 15 (by kernel_rfl)).symm.trans h0_) (by decide), fun _ => rfl, fun h0_ => absurd ((hoff 11 (by kernel_rfl)).symm.trans h0_) (by decide), fun h0_ => absurd ((hoff 12 (by kernel_rfl)).symm.trans h0_) (by decide), Q_X14_⟩
    refine steps_cons ?_ ?_
    · rintro b a w' ⟨cx9, g9, m10_, m11_, m12_, m14_, ha, Q_HB, Q_G9, Q_M9, Q_B9, Q_C9, Q_X10_, Q_X11_, Q_X12_, Q_X14_⟩ hb_ hon hoff
      refine ⟨_, rfl, fun K hK => ?_⟩
      have e59 : a.tmps[59]? = some (m10_) := by rw [ha]; exact putSel_on (e := (10, 59, m10_)) 1 rfl rfl (hon 10 (by kernel_rfl)) rfl
      rw [Q_X10_ (hon 10 (by kernel_rfl))] at e59
      replace ha := Aside0.mk ha
      have HB := Aside0.mk Q_HB
      have G9 := Aside0.mk Q_G9
      have M9 := Aside0.mk (Q_M9 (hon 10 (by kernel_rfl)))
      refine value_ (w1 := w') (v := .tuple #[.agg cx9, .int .i64 S.2]) (by rfl) rfl ?_ ?_
      · go_simp
        (try simp only [i64_w])
        try rfl
      refine hK.out _ _ ⟨cx9, g9, m10_, (.tuple #[.agg cx9, .int .i64 S.2]), m12_, m14_, (by rw [ha.out]; exact putSel_upk 2 hb_ rfl rfl rfl), Q_HB, Q_G9, Q_M9, Q_B9, fun h0_ => absurd ((hoff 15 (by kernel_rfl)).symm.trans h0_) (by decide), Q_X10_, fun _ => rfl, fun h0_ => absurd ((hoff 12 (by kernel_rfl)).symm.trans h0_) (by decide), Q_X14_⟩
    refine steps_cons ?_ ?_
    · rintro b a w' ⟨cx9, g9, m10_, m11_, m12_, m14_, ha, Q_HB, Q_G9, Q_M9, Q_B9, Q_C9, Q_X10_, Q_X11_, Q_X12_, Q_X14_⟩ hb_ hon hoff
      refine ⟨_, rfl, fun K hK => ?_⟩
      have e48 : a.tmps[48]? = some (m11_) := by rw [ha]; exact putSel_on (e := (11, 48, m11_)) 2 rfl rfl (hon 11 (by kernel_rfl)) rfl
      rw [Q_X11_ (hon 11 (by kernel_rfl))] at e48
      replace ha := Aside0.mk ha
      have HB := Aside0.mk Q_HB
      have G9 := Aside0.mk Q_G9
      have M9 := Aside0.mk (Q_M9 (hon 10 (by kernel_rfl)))
      refine value_ (w1 := w') (v := .agg cx9) (by rfl) rfl ?_ ?_
      · go_simp
        (try simp only [i64_w])
        try rfl
      refine hK.out _ _ ⟨cx9, g9, m10_, m11_, (.agg cx9), m14_, (by rw [ha.out]; exact putSel_upk 3 hb_ rfl rfl rfl), Q_HB, Q_G9, Q_M9, Q_B9, fun h0_ => absurd ((hoff 15 (by kernel_rfl)).symm.trans h0_) (by decide), Q_X10_, Q_X11_, fun _ => rfl, Q_X14_⟩
    refine steps_cons ?_ ?_
    · rintro b a w' ⟨cx9, g9, m10_, m11_, m12_, m14_, ha, Q_HB, Q_G9, Q_M9, Q_B9, Q_C9, Q_X10_, Q_X11_, Q_X12_, Q_X14_⟩ hb_ hon hoff
      refine ⟨_, rfl, fun K hK => ?_⟩
      have e48 : a.tmps[48]? = some (m11_) := by rw [ha]; exact putSel_on (e := (11, 48, m11_)) 2 rfl rfl (hon 11 (by kernel_rfl)) rfl
      rw [Q_X11_ (hon 11 (by kernel_rfl))] at e48
      replace ha := Aside0.mk ha
      have HB := Aside0.mk Q_HB
      have G9 := Aside0.mk Q_G9
      have M9 := Aside0.mk (Q_M9 (hon 10 (by kernel_rfl)))
      refine value_ (w1 := w') (v := .int .i64 S.2) (by rfl) rfl ?_ ?_
      · go_simp
        (try simp only [i64_w])
        try rfl
      refine hK.out _ _ ⟨cx9, g9, m10_, m11_, m12_, m14_, (by rw [ha.out]; exact putSel_upk 4 hb_ rfl rfl rfl), Q_HB, Q_G9, Q_M9, Q_B9, Q_C9, Q_X10_, Q_X11_, Q_X12_, Q_X14_⟩
    refine steps_cons ?_ ?_
    · rintro b a w' ⟨cx9, g9, m10_, m11_, m12_, m14_, ha, Q_HB, Q_G9, Q_M9, Q_B9, Q_C9, Q_X10_, Q_X11_, Q_X12_, Q_X14_⟩ hb_ hon hoff
      refine ⟨_, rfl, fun K hK => ?_⟩
      replace ha := Aside0.mk ha
      have HB := Aside0.mk Q_HB
      have G9 := Aside0.mk Q_G9
      refine alloc_ (by rfl) rfl ?_
      have z_M9 := fun (h0_ : b 10 = true) => (show ∀ W', Kept (w'.alloc (.cells zeroC 30)) W' (fun k => k = w'.heap.size) → IsMsg W' cx9 S.1 from fun W' hk_ => Q_M9 h0_ W' (kept_alloc hk_))
      refine hK.out _ _ ⟨cx9, w'.heap.size, m10_, m11_, m12_, (.pointer (some ⟨w'.heap.size, 0, none⟩)), (by rw [ha.out]; exact putSel_upk 5 hb_ rfl rfl rfl), below_alloc' HB.out _, size_alloc _ _, z_M9, fun _ _ => ⟨blk_new _ _, HB.out.size⟩, fun h0_ => absurd ((hoff 15 (by kernel_rfl)).symm.trans h0_) (by decide), Q_X10_, Q_X11_, Q_X12_, fun _ => rfl⟩
    refine steps_cons ?_ ?_
    · rintro b a w' ⟨cx9, g9, m10_, m11_, m12_, m14_, ha, Q_HB, Q_G9, Q_M9, Q_B9, Q_C9, Q_X10_, Q_X11_, Q_X12_, Q_X14_⟩ hb_ hon hoff
      refine ⟨_, rfl, fun K hK => ?_⟩
      have e14 : a.tmps[14]? = some (m14_) := by rw [ha]; exact putSel_on (e := (14, 14, m14_)) 5 rfl rfl (hon 14 (by kernel_rfl)) rfl
      rw [Q_X14_ (hon 14 (by kernel_rfl))] at e14
      have e60 : a.tmps[60]? = some (m12_) := by rw [ha]; exact putSel_on (e := (12, 60, m12_)) 3 rfl rfl (hon 12 (by kernel_rfl)) rfl
      rw [Q_X12_ (hon 12 (by kernel_rfl))] at e60
      replace ha := Aside0.mk ha
      have HB := Aside0.mk Q_HB
      have G9 := Aside0.mk Q_G9
      have M9 := Aside0.mk (Q_M9 (hon 10 (by kernel_rfl)))
      have B9 := Aside0.mk (Q_B9 (hon 14 (by kernel_rfl)) hb_)
      refine putm_ (x := .tmp 14) (y := .tmp 60) (by rfl) rfl rfl (by simp only [Act.eval, Array.getD_eq_getD_getElem?, Option.getD_some, e14]) (by simp only [Act.eval, Array.getD_eq_getD_getElem?, Option.getD_some, e60]) B9.out.1 rfl (M9.out _ (Kept.refl _ _)) ?_
      intro w2 hk_ hu_
      refine hK.out _ _ ⟨cx9, g9, m10_, m11_, m12_, m14_, (by rw [ha.out]; exact putSel_none (v := undef) rfl), HB.out.trans (hu_.below B9.out.2 HB.out.size), Nat.lt_of_lt_of_le G9.out (hu_.below B9.out.2 HB.out.size).size, fun _ => (fun W' hk2_ => M9.out W' (hu_.kept.then_ hk2_ (fun j hj => .inl hj))), fun _ h1_ => absurd ((up_self b 15).symm.trans h1_) (by decide), fun _ => hk_, Q_X10_, Q_X11_, Q_X12_, Q_X14_⟩
    refine steps_cons ?_ ?_
    · rintro b a w' ⟨cx9, g9, m10_, m11_, m12_, m14_, ha, Q_HB, Q_G9, Q_M9, Q_B9, Q_C9, Q_X10_, Q_X11_, Q_X12_, Q_X14_⟩ hb_ hon hoff
      refine ⟨_, rfl, fun K hK => ?_⟩
      have e61 : a.tmps[61]? = some (.int .i64 S.2) := by rw [ha]; exact putSel_on (e := (13, 61, .int .i64 S.2)) 4 rfl rfl (hon 13 (by kernel_rfl)) rfl
      replace ha := Aside0.mk ha
      have HB := Aside0.mk Q_HB
      have G9 := Aside0.mk Q_G9
      have M9 := Aside0.mk (Q_M9 (hon 10 (by kernel_rfl)))
      have C9 := Aside0.mk (Q_C9 (hon 15 (by kernel_rfl)))
      refine value_ (w1 := w') (v := .int .i64 S.2) (by rfl) rfl ?_ ?_
      · go_simp
        (try simp only [i64_w])
        try rfl
      refine hK.out _ _ ⟨cx9, g9, m10_, m11_, m12_, m14_, (by rw [ha.out]; exact putSel_upk 6 hb_ rfl rfl rfl), Q_HB, Q_G9, Q_M9, fun _ h1_ => absurd ((hon 15 (by kernel_rfl)).symm.trans h1_) (by decide), Q_C9, Q_X10_, Q_X11_, Q_X12_, Q_X14_⟩
    exact steps_nil
  rintro b a w11 hall ⟨cx9, g9, m10_, m11_, m12_, m14_, ha, Q_HB, Q_G9, Q_M9, Q_B9, Q_C9, Q_X10_, Q_X11_, Q_X12_, Q_X14_⟩
  clear G9 HB
  have hb2_ := hall 2 (by kernel_rfl)
  have hb10_ := hall 10 (by kernel_rfl)
  have hb11_ := hall 11 (by kernel_rfl)
  have hb12_ := hall 12 (by kernel_rfl)
  have hb13_ := hall 13 (by kernel_rfl)
  have hb14_ := hall 14 (by kernel_rfl)
  have hb15_ := hall 15 (by kernel_rfl)
  have hb16_ := hall 16 (by kernel_rfl)
  subst ha
  obtain rfl := Q_X10_ hb10_
  obtain rfl := Q_X11_ hb11_
  obtain rfl := Q_X12_ hb12_
  obtain rfl := Q_X14_ hb14_
  simp only [putSel, hb2_, hb10_, hb11_, hb12_, hb13_, hb14_, hb15_, hb16_, if_true, Act.put, List.setIfInBounds_toArray, List.set_cons_zero, List.set_cons_succ]
  have HB := Aside0.mk Q_HB
  clear Q_HB
  have G9 := Aside0.mk Q_G9
  clear Q_G9
  have M9 := Aside0.mk (Q_M9 hb10_)
  clear Q_M9
  clear Q_B9
  have C9 := Aside0.mk (Q_C9 hb15_)
  clear Q_C9
  clear hall hb2_ hb10_ hb11_ hb12_ hb13_ hb14_ hb15_ hb16_
  have n0_ := Aside0.mk ((((H.out.dr).on HB.out).add (sta_blk _ _) (C9.out)).add (sta_msg _ _) (M9.out _ (Kept.refl _ _)))
  clear H HB kcd RBD G9 M9 C9
  have H := n0_
  clear n0_
  clear hne hwr hcb hk hkl hzb hk2 hn0 hki hkc hk0
  go_upto_region 12 with (fail)
  have RBD := Aside0.mk (H.out.dr.f.1.1.2)
  have kcd := Aside0.mk (bx_code (H.out.dr.f.1.1.1.1.2) (H.out.dr.f.1.1.1.2))
  have HB := Aside0.mk (Below.refl w11.drew.heap.size (w11.drew))
  have G9 := Aside0.mk (Nat.lt_of_le_of_lt (Nat.zero_le _) (World.block_lt_of_cell? _ _ kcd.out))
  refine start_ (n := 16) (S := fun w' => True) (ds := []) #[false, false, false, false, false, false, false, false, false, false, false, false, false, false, false, false] (by kernel_rfl) rfl rfl trivial (fun hHeld => ?_)
  refine with_tabW cuts.tab12 cuts.bits12 (fun HT_ HW_ => ?_)
  refine pure_ (i := 0) (N := some 63) (v := ?_) (a' := ?_) #[true, false, false, false, false, false, false, false, false, false, false, false, false, false, false, false] rfl rfl (any_of HT_.out (by kernel_rfl)) (fun _ _ _ h => h) (Or.inl ⟨by rfl, ?_⟩) ?_ ?_
  rotate_left
  · intro w'
    go_simp
    with_reducible rfl
  rotate_left
  · simp only [Act.put, List.setIfInBounds_toArray, List.set_cons_zero, List.set_cons_succ, i64_w, i32_w]
    rfl
  refine pure_ (i := 1) (N := some 64) (v := ?_) (a' := ?_) #[true, true, false, false, false, false, false, false, false, false, false, false, false, false, false, false] rfl rfl (any_of HT_.out (by kernel_rfl)) (fun _ _ _ h => h) (Or.inl ⟨by rfl, ?_⟩) ?_ ?_
  rotate_left
  · intro w'
    go_simp
    with_reducible rfl
  rotate_left
  · simp only [Act.put, List.setIfInBounds_toArray, List.set_cons_zero, List.set_cons_succ, i64_w, i32_w]
    rfl
  refine pure_ (i := 4) (N := some 67) (v := ?_) (a' := ?_) #[true, true, false, false, true, false, false, false, false, false, false, false, false, false, false, false] rfl rfl (any_of HT_.out (by kernel_rfl)) (fun _ _ _ h => h) (Or.inl ⟨by rfl, ?_⟩) ?_ ?_
  rotate_left
  · intro w'
    go_simp
    with_reducible rfl
  rotate_left
  · simp only [Act.put, List.setIfInBounds_toArray, List.set_cons_zero, List.set_cons_succ, i64_w, i32_w]
    rfl
  refine pure_ (i := 6) (N := some 69) (v := ?_) (a' := ?_) #[true, true, false, false, true, false, true, false, false, false, false, false, false, false, false, false] rfl rfl (any_of HT_.out (by kernel_rfl)) (fun _ _ _ h => h) (Or.inl ⟨by rfl, ?_⟩) ?_ ?_
  rotate_left
  · intro w'
    go_simp
    with_reducible rfl
  rotate_left
  · simp only [Act.put, List.setIfInBounds_toArray, List.set_cons_zero, List.set_cons_succ, i64_w, i32_w]
    rfl
  refine inv_at [2, 3, 5, 7, 8, 9, 10, 11, 12, 13, 14, 15] (fun a0_ b a w' => ∃ (v3 : Value) (v5 : Value) (v7 : Value) (v8 : Value) (cx9 : Array Value) (g9 : Nat) (m9_ : Value) (m10_ : Value) (m11_ : Value) (m13_ : Value), a = putSel a0_ b [(2, 65, .int .u8 m.code), (3, 66, v3), (5, 68, v5), (7, 70, v7), (8, 71, v8), (9, 72, m9_), (10, 62, m10_), (11, 73, m11_), (12, 74, .int .i64 G.2), (13, 16, m13_), (15, 17, .int .i64 G.2)] ∧ (Below w11.drew.heap.size w11.drew w') ∧ (b 3 = true → b 5 = false → Kd.R (Kd.int .u8) 5 w' w11.drew.heap.size (fun _ => True) v3 (([] : List Int))) ∧ (b 7 = true → b 8 = false → Kd.R (Kd.int .u8) 5 w' w11.drew.heap.size (fun _ => True) v7 ([c])) ∧ (b 3 = true → b 7 = true → b 5 = false → ∀ q_, v7.ownBlock = some q_ → some q_ ≠ v3.ownBlock) ∧ (b 5 = true → b 8 = false → Kd.R (Kd.int .u8) 5 w' w11.drew.heap.size (fun _ => True) v5 (R.1)) ∧ (b 8 = true → b 9 = false → Kd.R (Kd.int .u8) 5 w' w11.drew.heap.size (fun _ => True) v8 (R.1 ++ [c])) ∧ (g9 < w'.heap.size) ∧ (b 9 = true → ∀ W', Kept w' W' (fun k => k = g9) → IsMsg W' cx9 G.1) ∧ (b 13 = true → b 14 = false → w'.heap[g9]? = some (.cells zeroC 30 (0, 0)) ∧ w11.drew.heap.size ≤ g9) ∧ (b 14 = true → w'.heap[g9]? = some (.cells cx9 30 (0, 0))) ∧ (b 9 = true → (m9_ : Value) = .tuple #[.agg cx9, .int .i64 G.2]) ∧ (b 10 = true → (m10_ : Value) = .tuple #[.agg cx9, .int .i64 G.2]) ∧ (b 11 = true → (m11_ : Value) = .agg cx9) ∧ (b 13 = true → (m13_ : Value) = .pointer (some ⟨g9, 0, none⟩))) HT_.out HW_.out (by kernel_rfl) (by kernel_rfl) ?_ ?_ ?_
  · exact ⟨.bool false, .bool false, .bool false, .bool false, #[], 0, .bool false, .bool false, .bool false, .bool false, by simp only [putSel, Bool.false_eq_true, if_false], HB.out, fun h_ => absurd h_ (by decide), fun h_ => absurd h_ (by decide), fun h_ => absurd h_ (by decide), fun h_ => absurd h_ (by decide), fun h_ => absurd h_ (by decide), G9.out, fun h_ => absurd h_ (by decide), fun h_ => absurd h_ (by decide), fun h_ => absurd h_ (by decide), fun h_ => absurd h_ (by decide), fun h_ => absurd h_ (by decide), fun h_ => absurd h_ (by decide), fun h_ => absurd h_ (by decide)⟩
  · skip
    clear G9 HB
    refine steps_cons ?_ ?_
    · rintro b a w' ⟨v3, v5, v7, v8, cx9, g9, m9_, m10_, m11_, m13_, ha, Q_HB, Q_R3, Q_R7, Q_D37, Q_R5, Q_R8, Q_G9, Q_M9, Q_B9, Q_C9, Q_X9_, Q_X10_, Q_X11_, Q_X13_⟩ hb_ hon hoff
      refine ⟨_, rfl, fun K hK => ?_⟩
      have e64 : a.tmps[64]? = some (.pointer (some ⟨w.heap.size, 0, none⟩)) := by rw [ha]; exact (putSel_off rfl).trans rfl
      replace ha := Aside0.mk ha
      have HB := Aside0.mk Q_HB
      have G9 := Aside0.mk Q_G9
      have hs2_ : w'.cell? ⟨w.heap.size, 0, none⟩ = some (.int .u8 m.code) := (HB.out.cell (World.block_lt_of_cell? _ _ kcd.out)).trans kcd.out
      refine value_ (w1 := w') (v := .int .u8 m.code) (by rfl) rfl ?_ ?_
      · go_simp
        (try simp only [i64_w])
        try rfl
      refine hK.out _ _ ⟨v3, v5, v7, v8, cx9, g9, m9_, m10_, m11_, m13_, (by rw [ha.out]; exact putSel_upk 0 hb_ rfl rfl rfl), Q_HB, Q_R3, Q_R7, Q_D37, Q_R5, Q_R8, Q_G9, fun h0_ => absurd ((hoff 9 (by kernel_rfl)).symm.trans h0_) (by decide), Q_B9, fun h0_ => absurd ((hoff 14 (by kernel_rfl)).symm.trans h0_) (by decide), fun h0_ => absurd ((hoff 9 (by kernel_rfl)).symm.trans h0_) (by decide), fun h0_ => absurd ((hoff 10 (by kernel_rfl)).symm.trans h0_) (by decide), fun h0_ => absurd ((hoff 11 (by kernel_rfl)).symm.trans h0_) (by decide), Q_X13_⟩
    refine steps_cons ?_ ?_
    · rintro b a w' ⟨v3, v5, v7, v8, cx9, g9, m9_, m10_, m11_, m13_, ha, Q_HB, Q_R3, Q_R7, Q_D37, Q_R5, Q_R8, Q_G9, Q_M9, Q_B9, Q_C9, Q_X9_, Q_X10_, Q_X11_, Q_X13_⟩ hb_ hon hoff
      refine ⟨_, rfl, fun K hK => ?_⟩
      replace ha := Aside0.mk ha
      have HB := Aside0.mk Q_HB
      have G9 := Aside0.mk Q_G9
      refine Kd.R_lit_step (Kd.int .u8) (w0 := w11.drew) w11.drew.heap.size 5 (by rfl) (N := 66) rfl (xs := ([] : List Int)) (inner := []) (ok := fun _ => True) (okp := fun _ => True) ?hr (Reps.none _ _) (fun _ hk => hk) trivial HB.out HB.out.size (by simp) ?_
      case hr => first | (go_simp; done) | (go_simp; rfl)
      intro nv_ w2 hR_ hB_ hg_ hn_
      have z_B9 := fun (h0_ : b 13 = true) (h1_ : b 14 = false) => (show w2.heap[g9]? = some (.cells zeroC 30 (0, 0)) ∧ w11.drew.heap.size ≤ g9 from ⟨blk_grown (Q_B9 h0_ h1_).1 hg_ (by simp), (Q_B9 h0_ h1_).2⟩)
      have z_R7 := fun (h0_ : b 7 = true) (h1_ : b 8 = false) => (show Kd.R (Kd.int .u8) 5 w2 w11.drew.heap.size (fun _ => True) v7 ([c]) from Kd.R_grown (Q_R7 h0_ h1_) hg_ (fun _ _ => by simp))
      have z_D37 := fun (_ : up b 3 3 = true) (h1_ : up b 3 7 = true) (_ : up b 3 5 = false) => (show ∀ q_, v7.ownBlock = some q_ → some q_ ≠ nv_.ownBlock from fun q_ hq e_ => by obtain ⟨t_, e1_, e2_⟩ := hn_; have h3_ := Kd.R_lt (Q_R7 h1_ (hoff 8 (by kernel_rfl))) q_ hq; rw [e1_] at e_; injection e_ with e_; omega)
      refine hK.out _ _ ⟨nv_, v5, v7, v8, cx9, g9, m9_, m10_, m11_, m13_, (by rw [ha.out]; exact putSel_upk 1 hb_ rfl rfl rfl), hB_, fun _ _ => hR_, z_R7, fun _ _ _ => (z_D37 (by assumption) (by assumption) (by assumption)), fun h0_ _ => absurd ((hoff 5 (by kernel_rfl)).symm.trans h0_) (by decide), fun h0_ _ => absurd ((hoff 8 (by kernel_rfl)).symm.trans h0_) (by decide), Nat.lt_of_lt_of_le G9.out hg_.size, fun h0_ => absurd ((hoff 9 (by kernel_rfl)).symm.trans h0_) (by decide), z_B9, fun h0_ => absurd ((hoff 14 (by kernel_rfl)).symm.trans h0_) (by decide), fun h0_ => absurd ((hoff 9 (by kernel_rfl)).symm.trans h0_) (by decide), fun h0_ => absurd ((hoff 10 (by kernel_rfl)).symm.trans h0_) (by decide), fun h0_ => absurd ((hoff 11 (by kernel_rfl)).symm.trans h0_) (by decide), Q_X13_⟩
    refine steps_cons ?_ ?_
    · rintro b a w' ⟨v3, v5, v7, v8, cx9, g9, m9_, m10_, m11_, m13_, ha, Q_HB, Q_R3, Q_R7, Q_D37, Q_R5, Q_R8, Q_G9, Q_M9, Q_B9, Q_C9, Q_X9_, Q_X10_, Q_X11_, Q_X13_⟩ hb_ hon hoff
      refine ⟨_, rfl, fun K hK => ?_⟩
      have e66 : a.tmps[66]? = some (v3) := by rw [ha]; exact putSel_on (e := (3, 66, v3)) 1 rfl rfl (hon 3 (by kernel_rfl)) rfl
      have e67 : a.tmps[67]? = some (.slice Ab R.1.length cb) := by rw [ha]; exact (putSel_off rfl).trans rfl
      replace ha := Aside0.mk ha
      have HB := Aside0.mk Q_HB
      have R3 := Aside0.mk (Q_R3 (hon 3 (by kernel_rfl)) hb_)
      have G9 := Aside0.mk Q_G9
      have HX_ : a.eval (.tmp 67) = .slice Ab R.1.length cb := (by simp only [Act.eval, Array.getD_eq_getD_getElem?, Option.getD_some, e67])
      refine Kd.R_append_rows_step (Kd.int .u8) (w0 := w11.drew) w11.drew.heap.size (by rfl) (.tmp 66) (.tmp 67) 22 5 (.int .u8 0) 1 rfl Try.underlying22 (by kernel_rfl) rfl (by decide) (by decide) v3 ([] : List Int) R.1 Ab R.1.length cb (fun _ => True) (fun _ => False) (by simp only [Act.eval, Array.getD_eq_getD_getElem?, Option.getD_some, e66]) HX_ R3.out (Kd.C_below RBD.out HB.out) (fun _ _ h => h) (fun _ h => h.elim) (fun _ _ => trivial) HB.out HB.out.size (by have := LB.out; simp only [List.length_nil]; omega) ?_
      intro nv_ w2 hR_ hB_ hg_ hat_
      rw [List.nil_append] at hR_
      have z_B9 := fun (h0_ : b 13 = true) (h1_ : b 14 = false) => (show w2.heap[g9]? = some (.cells zeroC 30 (0, 0)) ∧ w11.drew.heap.size ≤ g9 from ⟨blk_grown (Q_B9 h0_ h1_).1 hg_ (Kd.R_ne R3.out (Q_B9 h0_ h1_).1 (by decide)), (Q_B9 h0_ h1_).2⟩)
      have z_R7 := fun (h0_ : b 7 = true) (h1_ : b 8 = false) => (show Kd.R (Kd.int .u8) 5 w2 w11.drew.heap.size (fun _ => True) v7 ([c]) from R_int_ok (Kd.R_grown (R_int_ok (ok' := fun q_ => some q_ ≠ v3.ownBlock) (Q_R7 h0_ h1_) (Q_D37 (hon 3 (by kernel_rfl)) h0_ hb_)) hg_ (fun _ h => h)) (fun _ _ => trivial))
      refine hK.out _ _ ⟨v3, nv_, v7, v8, cx9, g9, m9_, m10_, m11_, m13_, (by rw [ha.out]; exact putSel_upk 2 hb_ rfl rfl rfl), hB_, fun _ h1_ => absurd ((up_self b 5).symm.trans h1_) (by decide), z_R7, fun _ _ h2_ => absurd ((up_self b 5).symm.trans h2_) (by decide), fun _ _ => hR_, fun h0_ _ => absurd ((hoff 8 (by kernel_rfl)).symm.trans h0_) (by decide), Nat.lt_of_lt_of_le G9.out hg_.size, fun h0_ => absurd ((hoff 9 (by kernel_rfl)).symm.trans h0_) (by decide), z_B9, fun h0_ => absurd ((hoff 14 (by kernel_rfl)).symm.trans h0_) (by decide), fun h0_ => absurd ((hoff 9 (by kernel_rfl)).symm.trans h0_) (by decide), fun h0_ => absurd ((hoff 10 (by kernel_rfl)).symm.trans h0_) (by decide), fun h0_ => absurd ((hoff 11 (by kernel_rfl)).symm.trans h0_) (by decide), Q_X13_⟩
    refine steps_cons ?_ ?_
    · rintro b a w' ⟨v3, v5, v7, v8, cx9, g9, m9_, m10_, m11_, m13_, ha, Q_HB, Q_R3, Q_R7, Q_D37, Q_R5, Q_R8, Q_G9, Q_M9, Q_B9, Q_C9, Q_X9_, Q_X10_, Q_X11_, Q_X13_⟩ hb_ hon hoff
      refine ⟨_, rfl, fun K hK => ?_⟩
      have e69 : a.tmps[69]? = some (.int .u8 c) := by rw [ha]; exact (putSel_off rfl).trans rfl
      replace ha := Aside0.mk ha
      have HB := Aside0.mk Q_HB
      have G9 := Aside0.mk Q_G9
      refine Kd.R_lit_step (Kd.int .u8) (w0 := w11.drew) w11.drew.heap.size 5 (by rfl) (N := 70) rfl (xs := [c]) (inner := [.int .u8 c]) (ok := fun _ => True) (okp := fun _ => True) ?hr (Reps.one (show Kd.M (Kd.int .u8) _ _ _ c [.int .u8 c] from rfl) (Reps.none _ _)) (fun _ hk => hk) trivial HB.out HB.out.size (by simp) ?_
      case hr => first | (go_simp; done) | (go_simp; rfl)
      intro nv_ w2 hR_ hB_ hg_ hn_
      have z_B9 := fun (h0_ : b 13 = true) (h1_ : b 14 = false) => (show w2.heap[g9]? = some (.cells zeroC 30 (0, 0)) ∧ w11.drew.heap.size ≤ g9 from ⟨blk_grown (Q_B9 h0_ h1_).1 hg_ (by simp), (Q_B9 h0_ h1_).2⟩)
      have z_R3 := fun (h0_ : b 3 = true) (h1_ : b 5 = false) => (show Kd.R (Kd.int .u8) 5 w2 w11.drew.heap.size (fun _ => True) v3 (([] : List Int)) from Kd.R_grown (Q_R3 h0_ h1_) hg_ (fun _ _ => by simp))
      have z_R5 := fun (h0_ : b 5 = true) (h1_ : b 8 = false) => (show Kd.R (Kd.int .u8) 5 w2 w11.drew.heap.size (fun _ => True) v5 (R.1) from Kd.R_grown (Q_R5 h0_ h1_) hg_ (fun _ _ => by simp))
      have z_D37 := fun (h1_ : up b 7 3 = true) (_ : up b 7 7 = true) (h2_ : up b 7 5 = false) => (show ∀ q_, nv_.ownBlock = some q_ → some q_ ≠ v3.ownBlock from fun q_ hq e_ => by obtain ⟨t_, e1_, e2_⟩ := hn_; have h3_ := Kd.R_lt (Q_R3 h1_ h2_) q_ e_.symm; rw [e1_] at hq; injection hq with hq; omega)
      refine hK.out _ _ ⟨v3, v5, nv_, v8, cx9, g9, m9_, m10_, m11_, m13_, (by rw [ha.out]; exact putSel_upk 3 hb_ rfl rfl rfl), hB_, z_R3, fun _ _ => hR_, fun _ _ _ => (z_D37 (by assumption) (by assumption) (by assumption)), z_R5, fun h0_ _ => absurd ((hoff 8 (by kernel_rfl)).symm.trans h0_) (by decide), Nat.lt_of_lt_of_le G9.out hg_.size, fun h0_ => absurd ((hoff 9 (by kernel_rfl)).symm.trans h0_) (by decide), z_B9, fun h0_ => absurd ((hoff 14 (by kernel_rfl)).symm.trans h0_) (by decide), fun h0_ => absurd ((hoff 9 (by kernel_rfl)).symm.trans h0_) (by decide), fun h0_ => absurd ((hoff 10 (by kernel_rfl)).symm.trans h0_) (by decide), fun h0_ => absurd ((hoff 11 (by kernel_rfl)).symm.trans h0_) (by decide), Q_X13_⟩
    refine steps_cons ?_ ?_
    · rintro b a w' ⟨v3, v5, v7, v8, cx9, g9, m9_, m10_, m11_, m13_, ha, Q_HB, Q_R3, Q_R7, Q_D37, Q_R5, Q_R8, Q_G9, Q_M9, Q_B9, Q_C9, Q_X9_, Q_X10_, Q_X11_, Q_X13_⟩ hb_ hon hoff
      refine ⟨_, rfl, fun K hK => ?_⟩
      have e68 : a.tmps[68]? = some (v5) := by rw [ha]; exact putSel_on (e := (5, 68, v5)) 2 rfl rfl (hon 5 (by kernel_rfl)) rfl
      have e70 : a.tmps[70]? = some (v7) := by rw [ha]; exact putSel_on (e := (7, 70, v7)) 3 rfl rfl (hon 7 (by kernel_rfl)) rfl
      replace ha := Aside0.mk ha
      have HB := Aside0.mk Q_HB
      have R7 := Aside0.mk (Q_R7 (hon 7 (by kernel_rfl)) hb_)
      have R5 := Aside0.mk (Q_R5 (hon 5 (by kernel_rfl)) hb_)
      have G9 := Aside0.mk Q_G9
      obtain ⟨A7_, c7_, e7_, hc7_, hr7_⟩ := Kd.R_reads R7.out
      have HX_ : a.eval (.tmp 70) = .slice A7_ [c].length c7_ := by rw [← e7_]; exact (by simp only [Act.eval, Array.getD_eq_getD_getElem?, Option.getD_some, e70])
      refine Kd.R_append_rows_step (Kd.int .u8) (w0 := w11.drew) w11.drew.heap.size (by rfl) (.tmp 68) (.tmp 70) 22 5 (.int .u8 0) 1 rfl Try.underlying22 (by kernel_rfl) rfl (by decide) (by decide) v5 R.1 [c] A7_ [c].length c7_ (fun _ => True) (fun _ => False) (by simp only [Act.eval, Array.getD_eq_getD_getElem?, Option.getD_some, e68]) HX_ R5.out hr7_ (fun _ _ h => h) (fun _ h => h.elim) (fun _ _ => trivial) HB.out HB.out.size (by have := LB.out; simp only [List.length_cons, List.length_nil]; omega) ?_
      intro nv_ w2 hR_ hB_ hg_ hat_
      have z_B9 := fun (h0_ : b 13 = true) (h1_ : b 14 = false) => (show w2.heap[g9]? = some (.cells zeroC 30 (0, 0)) ∧ w11.drew.heap.size ≤ g9 from ⟨blk_grown (Q_B9 h0_ h1_).1 hg_ (Kd.R_ne R5.out (Q_B9 h0_ h1_).1 (by decide)), (Q_B9 h0_ h1_).2⟩)
      refine hK.out _ _ ⟨v3, v5, v7, nv_, cx9, g9, m9_, m10_, m11_, m13_, (by rw [ha.out]; exact putSel_upk 4 hb_ rfl rfl rfl), hB_, fun _ h1_ => absurd ((hon 5 (by kernel_rfl)).symm.trans h1_) (by decide), fun _ h1_ => absurd ((up_self b 8).symm.trans h1_) (by decide), fun _ _ h2_ => absurd ((hon 5 (by kernel_rfl)).symm.trans h2_) (by decide), fun _ h1_ => absurd ((up_self b 8).symm.trans h1_) (by decide), fun _ _ => hR_, Nat.lt_of_lt_of_le G9.out hg_.size, fun h0_ => absurd ((hoff 9 (by kernel_rfl)).symm.trans h0_) (by decide), z_B9, fun h0_ => absurd ((hoff 14 (by kernel_rfl)).symm.trans h0_) (by decide), fun h0_ => absurd ((hoff 9 (by kernel_rfl)).symm.trans h0_) (by decide), fun h0_ => absurd ((hoff 10 (by kernel_rfl)).symm.trans h0_) (by decide), fun h0_ => absurd ((hoff 11 (by kernel_rfl)).symm.trans h0_) (by decide), Q_X13_⟩
    refine steps_cons ?_ ?_
    · rintro b a w' ⟨v3, v5, v7, v8, cx9, g9, m9_, m10_, m11_, m13_, ha, Q_HB, Q_R3, Q_R7, Q_D37, Q_R5, Q_R8, Q_G9, Q_M9, Q_B9, Q_C9, Q_X9_, Q_X10_, Q_X11_, Q_X13_⟩ hb_ hon hoff
      refine ⟨_, rfl, fun K hK => ?_⟩
      have e63 : a.tmps[63]? = some (.int .i64 0) := by rw [ha]; exact (putSel_off rfl).trans rfl
      have e65 : a.tmps[65]? = some (.int .u8 m.code) := by rw [ha]; exact putSel_on (e := (2, 65, .int .u8 m.code)) 0 rfl rfl (hon 2 (by kernel_rfl)) rfl
      have e71 : a.tmps[71]? = some (v8) := by rw [ha]; exact putSel_on (e := (8, 71, v8)) 4 rfl rfl (hon 8 (by kernel_rfl)) rfl
      replace ha := Aside0.mk ha
      have HB := Aside0.mk Q_HB
      have R8 := Aside0.mk (Q_R8 (hon 8 (by kernel_rfl)) hb_)
      have G9 := Aside0.mk Q_G9
      obtain ⟨A8_, c8_, e8_, hc8_, hr8_⟩ := Kd.R_reads R8.out
      rw [e8_] at e71
      refine goes_ Try.func12 (by kernel_rfl) rfl #[.int .i64 0, .int .u8 m.code, .slice A8_ (R.1 ++ [c]).length c8_] (by rfl) rfl rfl (by first | (simp only [List.map_toArray, List.map_cons, List.map_nil, Act.eval, Array.getD_eq_getD_getElem?, Option.getD_some, e63, e65, e71]; done) | (simp only [List.map_toArray, List.map_cons, List.map_nil, Act.eval, Array.getD_eq_getD_getElem?, Option.getD_some, e63, e65, e71]; rfl)) ?_
      with_reducible refine (PRob.c HG.out hr8_ hc8_).mono ?_
      rintro en w2 ⟨ncx_, rfl, nm_, hB_⟩
      refine ⟨_, rfl, ?_⟩
      have z_B9 := fun (h0_ : b 13 = true) (h1_ : b 14 = false) => (show w2.heap[g9]? = some (.cells zeroC 30 (0, 0)) ∧ w11.drew.heap.size ≤ g9 from ⟨blk_below (Q_B9 h0_ h1_).1 hB_, (Q_B9 h0_ h1_).2⟩)
      refine hK.out _ _ ⟨v3, v5, v7, v8, ncx_, g9, (.tuple #[.agg ncx_, .int .i64 G.2]), m10_, m11_, m13_, (by rw [ha.out]; exact putSel_upk 5 hb_ rfl rfl rfl), HB.out.trans (hB_.mono HB.out.size), fun _ h1_ => absurd ((hon 5 (by kernel_rfl)).symm.trans h1_) (by decide), fun _ h1_ => absurd ((hon 8 (by kernel_rfl)).symm.trans h1_) (by decide), fun _ _ h2_ => absurd ((hon 5 (by kernel_rfl)).symm.trans h2_) (by decide), fun _ h1_ => absurd ((hon 8 (by kernel_rfl)).symm.trans h1_) (by decide), fun _ h1_ => absurd ((up_self b 9).symm.trans h1_) (by decide), Nat.lt_of_lt_of_le G9.out hB_.size, fun _ => (fun W' hk_ => nm_ W' (hk_.mono fun j hj => by rw [hj]; exact G9.out)), z_B9, fun h0_ => absurd ((hoff 14 (by kernel_rfl)).symm.trans h0_) (by decide), fun _ => rfl, fun h0_ => absurd ((hoff 10 (by kernel_rfl)).symm.trans h0_) (by decide), fun h0_ => absurd ((hoff 11 (by kernel_rfl)).symm.trans h0_) (by decide), Q_X13_⟩
    refine steps_cons ?_ ?_
    · rintro b a w' ⟨v3, v5, v7, v8, cx9, g9, m9_, m10_, m11_, m13_, ha, Q_HB, Q_R3, Q_R7, Q_D37, Q_R5, Q_R8, Q_G9, Q_M9, Q_B9, Q_C9, Q_X9_, Q_X10_, Q_X11_, Q_X13_⟩ hb_ hon hoff
      refine ⟨_, rfl, fun K hK => ?_⟩
      have e72 : a.tmps[72]? = some (m9_) := by rw [ha]; exact putSel_on (e := (9, 72, m9_)) 5 rfl rfl (hon 9 (by kernel_rfl)) rfl
      rw [Q_X9_ (hon 9 (by kernel_rfl))] at e72
      replace ha := Aside0.mk ha
      have HB := Aside0.mk Q_HB
      have G9 := Aside0.mk Q_G9
      have M9 := Aside0.mk (Q_M9 (hon 9 (by kernel_rfl)))
      refine value_ (w1 := w') (v := .tuple #[.agg cx9, .int .i64 G.2]) (by rfl) rfl ?_ ?_
      · go_simp
        (try simp only [i64_w])
        try rfl
      refine hK.out _ _ ⟨v3, v5, v7, v8, cx9, g9, m9_, (.tuple #[.agg cx9, .int .i64 G.2]), m11_, m13_, (by rw [ha.out]; exact putSel_upk 6 hb_ rfl rfl rfl), Q_HB, fun _ h1_ => absurd ((hon 5 (by kernel_rfl)).symm.trans h1_) (by decide), fun _ h1_ => absurd ((hon 8 (by kernel_rfl)).symm.trans h1_) (by decide), fun _ _ h2_ => absurd ((hon 5 (by kernel_rfl)).symm.trans h2_) (by decide), fun _ h1_ => absurd ((hon 8 (by kernel_rfl)).symm.trans h1_) (by decide), fun _ h1_ => absurd ((hon 9 (by kernel_rfl)).symm.trans h1_) (by decide), Q_G9, Q_M9, Q_B9, fun h0_ => absurd ((hoff 14 (by kernel_rfl)).symm.trans h0_) (by decide), Q_X9_, fun _ => rfl, fun h0_ => absurd ((hoff 11 (by kernel_rfl)).symm.trans h0_) (by decide), Q_X13_⟩
    refine steps_cons ?_ ?_
    · rintro b a w' ⟨v3, v5, v7, v8, cx9, g9, m9_, m10_, m11_, m13_, ha, Q_HB, Q_R3, Q_R7, Q_D37, Q_R5, Q_R8, Q_G9, Q_M9, Q_B9, Q_C9, Q_X9_, Q_X10_, Q_X11_, Q_X13_⟩ hb_ hon hoff
      refine ⟨_, rfl, fun K hK => ?_⟩
      have e62 : a.tmps[62]? = some (m10_) := by rw [ha]; exact putSel_on (e := (10, 62, m10_)) 6 rfl rfl (hon 10 (by kernel_rfl)) rfl
      rw [Q_X10_ (hon 10 (by kernel_rfl))] at e62
      replace ha := Aside0.mk ha
      have HB := Aside0.mk Q_HB
      have G9 := Aside0.mk Q_G9
      have M9 := Aside0.mk (Q_M9 (hon 9 (by kernel_rfl)))
      refine value_ (w1 := w') (v := .agg cx9) (by rfl) rfl ?_ ?_
      · go_simp
        (try simp only [i64_w])
        try rfl
      refine hK.out _ _ ⟨v3, v5, v7, v8, cx9, g9, m9_, m10_, (.agg cx9), m13_, (by rw [ha.out]; exact putSel_upk 7 hb_ rfl rfl rfl), Q_HB, fun _ h1_ => absurd ((hon 5 (by kernel_rfl)).symm.trans h1_) (by decide), fun _ h1_ => absurd ((hon 8 (by kernel_rfl)).symm.trans h1_) (by decide), fun _ _ h2_ => absurd ((hon 5 (by kernel_rfl)).symm.trans h2_) (by decide), fun _ h1_ => absurd ((hon 8 (by kernel_rfl)).symm.trans h1_) (by decide), fun _ h1_ => absurd ((hon 9 (by kernel_rfl)).symm.trans h1_) (by decide), Q_G9, Q_M9, Q_B9, fun h0_ => absurd ((hoff 14 (by kernel_rfl)).symm.trans h0_) (by decide), Q_X9_, Q_X10_, fun _ => rfl, Q_X13_⟩
    refine steps_cons ?_ ?_
    · rintro b a w' ⟨v3, v5, v7, v8, cx9, g9, m9_, m10_, m11_, m13_, ha, Q_HB, Q_R3, Q_R7, Q_D37, Q_R5, Q_R8, Q_G9, Q_M9, Q_B9, Q_C9, Q_X9_, Q_X10_, Q_X11_, Q_X13_⟩ hb_ hon hoff
      refine ⟨_, rfl, fun K hK => ?_⟩
      have e62 : a.tmps[62]? = some (m10_) := by rw [ha]; exact putSel_on (e := (10, 62, m10_)) 6 rfl rfl (hon 10 (by kernel_rfl)) rfl
      rw [Q_X10_ (hon 10 (by kernel_rfl))] at e62
      replace ha := Aside0.mk ha
      have HB := Aside0.mk Q_HB
      have G9 := Aside0.mk Q_G9
      have M9 := Aside0.mk (Q_M9 (hon 9 (by kernel_rfl)))
      refine value_ (w1 := w') (v := .int .i64 G.2) (by rfl) rfl ?_ ?_
      · go_simp
        (try simp only [i64_w])
        try rfl
      refine hK.out _ _ ⟨v3, v5, v7, v8, cx9, g9, m9_, m10_, m11_, m13_, (by rw [ha.out]; exact putSel_upk 8 hb_ rfl rfl rfl), Q_HB, fun _ h1_ => absurd ((hon 5 (by kernel_rfl)).symm.trans h1_) (by decide), fun _ h1_ => absurd ((hon 8 (by kernel_rfl)).symm.trans h1_) (by decide), fun _ _ h2_ => absurd ((hon 5 (by kernel_rfl)).symm.trans h2_) (by decide), fun _ h1_ => absurd ((hon 8 (by kernel_rfl)).symm.trans h1_) (by decide), fun _ h1_ => absurd ((hon 9 (by kernel_rfl)).symm.trans h1_) (by decide), Q_G9, Q_M9, Q_B9, Q_C9, Q_X9_, Q_X10_, Q_X11_, Q_X13_⟩
    refine steps_cons ?_ ?_
    · rintro b a w' ⟨v3, v5, v7, v8, cx9, g9, m9_, m10_, m11_, m13_, ha, Q_HB, Q_R3, Q_R7, Q_D37, Q_R5, Q_R8, Q_G9, Q_M9, Q_B9, Q_C9, Q_X9_, Q_X10_, Q_X11_, Q_X13_⟩ hb_ hon hoff
      refine ⟨_, rfl, fun K hK => ?_⟩
      replace ha := Aside0.mk ha
      have HB := Aside0.mk Q_HB
      have G9 := Aside0.mk Q_G9
      refine alloc_ (by rfl) rfl ?_
      have z_R3 := fun (h0_ : b 3 = true) (h1_ : b 5 = false) => (show Kd.R (Kd.int .u8) 5 (w'.alloc (.cells zeroC 30)) w11.drew.heap.size (fun _ => True) v3 (([] : List Int)) from Kd.R_alloc (Q_R3 h0_ h1_) _)
      have z_R7 := fun (h0_ : b 7 = true) (h1_ : b 8 = false) => (show Kd.R (Kd.int .u8) 5 (w'.alloc (.cells zeroC 30)) w11.drew.heap.size (fun _ => True) v7 ([c]) from Kd.R_alloc (Q_R7 h0_ h1_) _)
      have z_R5 := fun (h0_ : b 5 = true) (h1_ : b 8 = false) => (show Kd.R (Kd.int .u8) 5 (w'.alloc (.cells zeroC 30)) w11.drew.heap.size (fun _ => True) v5 (R.1) from Kd.R_alloc (Q_R5 h0_ h1_) _)
      have z_R8 := fun (h0_ : b 8 = true) (h1_ : b 9 = false) => (show Kd.R (Kd.int .u8) 5 (w'.alloc (.cells zeroC 30)) w11.drew.heap.size (fun _ => True) v8 (R.1 ++ [c]) from Kd.R_alloc (Q_R8 h0_ h1_) _)
      have z_M9 := fun (h0_ : b 9 = true) => (show ∀ W', Kept (w'.alloc (.cells zeroC 30)) W' (fun k => k = w'.heap.size) → IsMsg W' cx9 G.1 from fun W' hk_ => Q_M9 h0_ W' (kept_alloc hk_))
      refine hK.out _ _ ⟨v3, v5, v7, v8, cx9, w'.heap.size, m9_, m10_, m11_, (.pointer (some ⟨w'.heap.size, 0, none⟩)), (by rw [ha.out]; exact putSel_upk 9 hb_ rfl rfl rfl), below_alloc' HB.out _, z_R3, z_R7, Q_D37, z_R5, z_R8, size_alloc _ _, z_M9, fun _ _ => ⟨blk_new _ _, HB.out.size⟩, fun h0_ => absurd ((hoff 14 (by kernel_rfl)).symm.trans h0_) (by decide), Q_X9_, Q_X10_, Q_X11_, fun _ => rfl⟩
    refine steps_cons ?_ ?_
    · rintro b a w' ⟨v3, v5, v7, v8, cx9, g9, m9_, m10_, m11_, m13_, ha, Q_HB, Q_R3, Q_R7, Q_D37, Q_R5, Q_R8, Q_G9, Q_M9, Q_B9, Q_C9, Q_X9_, Q_X10_, Q_X11_, Q_X13_⟩ hb_ hon hoff
      refine ⟨_, rfl, fun K hK => ?_⟩
      have e16 : a.tmps[16]? = some (m13_) := by rw [ha]; exact putSel_on (e := (13, 16, m13_)) 9 rfl rfl (hon 13 (by kernel_rfl)) rfl
      rw [Q_X13_ (hon 13 (by kernel_rfl))] at e16
      have e73 : a.tmps[73]? = some (m11_) := by rw [ha]; exact putSel_on (e := (11, 73, m11_)) 7 rfl rfl (hon 11 (by kernel_rfl)) rfl
      rw [Q_X11_ (hon 11 (by kernel_rfl))] at e73
      replace ha := Aside0.mk ha
      have HB := Aside0.mk Q_HB
      have G9 := Aside0.mk Q_G9
      have M9 := Aside0.mk (Q_M9 (hon 9 (by kernel_rfl)))
      have B9 := Aside0.mk (Q_B9 (hon 13 (by kernel_rfl)) hb_)
      refine putm_ (x := .tmp 16) (y := .tmp 73) (by rfl) rfl rfl (by simp only [Act.eval, Array.getD_eq_getD_getElem?, Option.getD_some, e16]) (by simp only [Act.eval, Array.getD_eq_getD_getElem?, Option.getD_some, e73]) B9.out.1 rfl (M9.out _ (Kept.refl _ _)) ?_
      intro w2 hk_ hu_
      refine hK.out _ _ ⟨v3, v5, v7, v8, cx9, g9, m9_, m10_, m11_, m13_, (by rw [ha.out]; exact putSel_none (v := undef) rfl), HB.out.trans (hu_.below B9.out.2 HB.out.size), fun _ h1_ => absurd ((hon 5 (by kernel_rfl)).symm.trans h1_) (by decide), fun _ h1_ => absurd ((hon 8 (by kernel_rfl)).symm.trans h1_) (by decide), fun _ _ h2_ => absurd ((hon 5 (by kernel_rfl)).symm.trans h2_) (by decide), fun _ h1_ => absurd ((hon 8 (by kernel_rfl)).symm.trans h1_) (by decide), fun _ h1_ => absurd ((hon 9 (by kernel_rfl)).symm.trans h1_) (by decide), Nat.lt_of_lt_of_le G9.out (hu_.below B9.out.2 HB.out.size).size, fun _ => (fun W' hk2_ => M9.out W' (hu_.kept.then_ hk2_ (fun j hj => .inl hj))), fun _ h1_ => absurd ((up_self b 14).symm.trans h1_) (by decide), fun _ => hk_, Q_X9_, Q_X10_, Q_X11_, Q_X13_⟩
    refine steps_cons ?_ ?_
    · rintro b a w' ⟨v3, v5, v7, v8, cx9, g9, m9_, m10_, m11_, m13_, ha, Q_HB, Q_R3, Q_R7, Q_D37, Q_R5, Q_R8, Q_G9, Q_M9, Q_B9, Q_C9, Q_X9_, Q_X10_, Q_X11_, Q_X13_⟩ hb_ hon hoff
      refine ⟨_, rfl, fun K hK => ?_⟩
      have e74 : a.tmps[74]? = some (.int .i64 G.2) := by rw [ha]; exact putSel_on (e := (12, 74, .int .i64 G.2)) 8 rfl rfl (hon 12 (by kernel_rfl)) rfl
      replace ha := Aside0.mk ha
      have HB := Aside0.mk Q_HB
      have G9 := Aside0.mk Q_G9
      have M9 := Aside0.mk (Q_M9 (hon 9 (by kernel_rfl)))
      have C9 := Aside0.mk (Q_C9 (hon 14 (by kernel_rfl)))
      refine value_ (w1 := w') (v := .int .i64 G.2) (by rfl) rfl ?_ ?_
      · go_simp
        (try simp only [i64_w])
        try rfl
      refine hK.out _ _ ⟨v3, v5, v7, v8, cx9, g9, m9_, m10_, m11_, m13_, (by rw [ha.out]; exact putSel_upk 10 hb_ rfl rfl rfl), Q_HB, fun _ h1_ => absurd ((hon 5 (by kernel_rfl)).symm.trans h1_) (by decide), fun _ h1_ => absurd ((hon 8 (by kernel_rfl)).symm.trans h1_) (by decide), fun _ _ h2_ => absurd ((hon 5 (by kernel_rfl)).symm.trans h2_) (by decide), fun _ h1_ => absurd ((hon 8 (by kernel_rfl)).symm.trans h1_) (by decide), fun _ h1_ => absurd ((hon 9 (by kernel_rfl)).symm.trans h1_) (by decide), Q_G9, Q_M9, fun _ h1_ => absurd ((hon 14 (by kernel_rfl)).symm.trans h1_) (by decide), Q_C9, Q_X9_, Q_X10_, Q_X11_, Q_X13_⟩
    exact steps_nil
  rintro b a w12 hall ⟨v3, v5, v7, v8, cx9, g9, m9_, m10_, m11_, m13_, ha, Q_HB, Q_R3, Q_R7, Q_D37, Q_R5, Q_R8, Q_G9, Q_M9, Q_B9, Q_C9, Q_X9_, Q_X10_, Q_X11_, Q_X13_⟩
  clear G9 HB
  have hb2_ := hall 2 (by kernel_rfl)
  have hb3_ := hall 3 (by kernel_rfl)
  have hb5_ := hall 5 (by kernel_rfl)
  have hb7_ := hall 7 (by kernel_rfl)
  have hb8_ := hall 8 (by kernel_rfl)
  have hb9_ := hall 9 (by kernel_rfl)
  have hb10_ := hall 10 (by kernel_rfl)
  have hb11_ := hall 11 (by kernel_rfl)
  have hb12_ := hall 12 (by kernel_rfl)
  have hb13_ := hall 13 (by kernel_rfl)
  have hb14_ := hall 14 (by kernel_rfl)
  have hb15_ := hall 15 (by kernel_rfl)
  subst ha
  obtain rfl := Q_X9_ hb9_
  obtain rfl := Q_X10_ hb10_
  obtain rfl := Q_X11_ hb11_
  obtain rfl := Q_X13_ hb13_
  simp only [putSel, hb2_, hb3_, hb5_, hb7_, hb8_, hb9_, hb10_, hb11_, hb12_, hb13_, hb14_, hb15_, if_true, Act.put, List.setIfInBounds_toArray, List.set_cons_zero, List.set_cons_succ]
  have HB := Aside0.mk Q_HB
  clear Q_HB
  clear Q_R3
  clear Q_R7
  clear Q_D37
  clear Q_R5
  clear Q_R8
  have G9 := Aside0.mk Q_G9
  clear Q_G9
  have M9 := Aside0.mk (Q_M9 hb9_)
  clear Q_M9
  clear Q_B9
  have C9 := Aside0.mk (Q_C9 hb14_)
  clear Q_C9
  clear hall hb2_ hb3_ hb5_ hb7_ hb8_ hb9_ hb10_ hb11_ hb12_ hb13_ hb14_ hb15_
  have n0_ := Aside0.mk ((((H.out.dr).on HB.out).add (sta_blk _ _) (C9.out)).add (sta_msg _ _) (M9.out _ (Kept.refl _ _)))
  clear H HB kcd RBD G9 M9 C9
  have H := n0_
  clear n0_
  rcases HS2.out with hs2 | ⟨hs2, hs3⟩
  · have es2 : (S.2 != 0) = true := by simpa using hs2
    have es1 : (S.2 == 0) = false := by simpa using hs2
    clear hs2
    rcases HG2.out with hg2 | ⟨hg2, hg3⟩
    · have eg2 : (G.2 != 0) = true := by simpa using hg2
      have eg1 : (G.2 == 0) = false := by simpa using hg2
      clear hg2
      go_wp2
      go_ret
      exact ⟨by first | rfl | (simp; done), H.out.b⟩
    · have eg2 : (G.2 != 0) = false := by rw [hg2]; rfl
      have eg1 : (G.2 == 0) = true := by rw [hg2]; rfl
      have HG3 := Aside0.mk hg3
      clear hg3
      clear hg2
      go_wp2_with (first | ((with_reducible refine gate_dst (N := 90) rfl ?_); (try (refine gate_guard (by rfl) ?_; dsimp only)); refine ev_get (x := .tmp 16) rfl rfl rfl H.out.f.1.2 H.out.f.2 ?_) | ((with_reducible refine gate_dst (N := 91) rfl ?_); (try (refine gate_guard (by rfl) ?_; dsimp only)); refine ev_get (x := .tmp 5) rfl rfl rfl H.out.f.1.1.1.1.1.1.2 H.out.f.1.1.1.1.1.2 ?_) | (go_at_call 14; (with_reducible refine (same_not H.out.f.2 H.out.f.1.1.1.1.1.2 HG3.out).mono ?_); rintro en ws ⟨rfl, hb_⟩; have n0_ := Aside0.mk (H.out.on hb_); clear H; have H := n0_; clear n0_; clear hb_))
      go_ret
      exact ⟨by first | rfl | (simp; done), H.out.b⟩
  · have es2 : (S.2 != 0) = false := by rw [hs2]; rfl
    have es1 : (S.2 == 0) = true := by rw [hs2]; rfl
    have HS3 := Aside0.mk hs3
    clear hs3
    clear hs2
    rcases HG2.out with hg2 | ⟨hg2, hg3⟩
    · have eg2 : (G.2 != 0) = true := by simpa using hg2
      have eg1 : (G.2 == 0) = false := by simpa using hg2
      clear hg2
      go_wp2_with (first | ((with_reducible refine gate_dst (N := 80) rfl ?_); (try (refine gate_guard (by rfl) ?_; dsimp only)); refine ev_get (x := .tmp 14) rfl rfl rfl H.out.f.1.1.1.2 H.out.f.1.1.2 ?_) | ((with_reducible refine gate_dst (N := 81) rfl ?_); (try (refine gate_guard (by rfl) ?_; dsimp only)); refine ev_get (x := .tmp 5) rfl rfl rfl H.out.f.1.1.1.1.1.1.2 H.out.f.1.1.1.1.1.2 ?_) | (go_at_call 14; (with_reducible refine (same_not H.out.f.1.1.2 H.out.f.1.1.1.1.1.2 HS3.out).mono ?_); rintro en ws ⟨rfl, hb_⟩; have n0_ := Aside0.mk (H.out.on hb_); clear H; have H := n0_; clear n0_; clear hb_))
      go_ret
      exact ⟨by first | rfl | (simp; done), H.out.b⟩
    · have eg2 : (G.2 != 0) = false := by rw [hg2]; rfl
      have eg1 : (G.2 == 0) = true := by rw [hg2]; rfl
      have HG3 := Aside0.mk hg3
      clear hg3
      clear hg2
      go_wp2_with (first | ((with_reducible refine gate_dst (N := 80) rfl ?_); (try (refine gate_guard (by rfl) ?_; dsimp only)); refine ev_get (x := .tmp 14) rfl rfl rfl H.out.f.1.1.1.2 H.out.f.1.1.2 ?_) | ((with_reducible refine gate_dst (N := 81) rfl ?_); (try (refine gate_guard (by rfl) ?_; dsimp only)); refine ev_get (x := .tmp 5) rfl rfl rfl H.out.f.1.1.1.1.1.1.2 H.out.f.1.1.1.1.1.2 ?_) | (go_at_call 14; (with_reducible refine (same_not H.out.f.1.1.2 H.out.f.1.1.1.1.1.2 HS3.out).mono ?_); rintro en ws ⟨rfl, hb_⟩; have n0_ := Aside0.mk (H.out.on hb_); clear H; have H := n0_; clear n0_; clear hb_) | ((with_reducible refine gate_dst (N := 90) rfl ?_); (try (refine gate_guard (by rfl) ?_; dsimp only)); refine ev_get (x := .tmp 16) rfl rfl rfl H.out.f.1.2 H.out.f.2 ?_) | ((with_reducible refine gate_dst (N := 91) rfl ?_); (try (refine gate_guard (by rfl) ?_; dsimp only)); refine ev_get (x := .tmp 5) rfl rfl rfl H.out.f.1.1.1.1.1.1.2 H.out.f.1.1.1.1.1.2 ?_) | (go_at_call 14; (with_reducible refine (same_not H.out.f.2 H.out.f.1.1.1.1.1.2 HG3.out).mono ?_); rintro en ws ⟨rfl, hb_⟩; have n0_ := Aside0.mk (H.out.on hb_); clear H; have H := n0_; clear n0_; clear hb_))
      go_ret
      exact ⟨by first | rfl | (simp; done), H.out.b⟩
theorem Cuts_10 {at_ c : Int} {m : Msg} {cx : Array Value} {w : World} (hm : IsMsg w cx m) (ha : AwakeC 11) (hf : fewB m = true) {R : List Int × Int} (hy : WriteC 16 1 m R) (hr1 : R.2 = 1) :
    Calls Try.prog 10 #[.bool true, .agg cx, .int .u16 at_, .int .u8 c] w fun en w' => en = .returned (.bool true) ∧ Below w.heap.size w w' := by
  have H := Aside0.mk (Hd.start w)
  have hsz := hm.size
  have hix := msg_info hsz
  have n0_ := Aside0.mk ((((H.out.on (below_alloc (Below.refl _ _) (Obj.cells cx 30)))).add (sta_blk _ _) (blk_new _ _)).add (sta_msg _ _) (hm.on (below_alloc (Below.refl _ _) _)))
  clear H
  have H := n0_
  clear n0_
  have HA := Aside0.mk ha
  have HY := Aside0.mk hy
  clear hm ha hy
  have er : (R.2 != 0) = true := by rw [hr1]; rfl
  have er2 : (R.2 == 1) = true := by rw [hr1]; rfl
  clear hr1
  go_enter Try.func10, Try.ntmps10
  go_upto_region 2 with (first | (go_at_call 11; (with_reducible refine (AwakeC.c HA.out _).mono ?_); rintro en wa ⟨rfl, hb_⟩; have n0_ := Aside0.mk (H.out.on hb_); clear H; have H := n0_; clear n0_; clear hb_))
  go_upto_region 3 with (first | ((with_reducible refine gate_dst (N := 19) rfl ?_); (try (refine gate_guard (by rfl) ?_; dsimp only)); refine ev_get (x := .tmp 5) rfl rfl rfl H.out.f.1.2 H.out.f.2 ?_) | (go_at_call 15; (with_reducible refine (few_msg H.out.f.2).mono ?_); rintro en ws ⟨rfl, hb_⟩; have n0_ := Aside0.mk (H.out.on hb_); clear H; have H := n0_; clear n0_; clear hb_))
  go_upto_region 8 with (fail)
  go_upto_region 9 with (first | ((with_reducible refine gate_dst (N := 27) rfl ?_); (try (refine gate_guard (by rfl) ?_; dsimp only)); refine ev_get (x := .tmp 5) rfl rfl rfl H.out.f.1.2 H.out.f.2 ?_) | (go_at_call 16; (with_reducible refine (WriteC.c HY.out H.out.f.2).mono ?_); rintro en wb ⟨Ab, cb, rfl, hz_, hr_, hb_⟩; have n0_ := Aside0.mk ((H.out.on hb_).add (sta_C _ _ _ _) (hr_)); clear H; have H := n0_; clear n0_; have Zb := Aside0.mk hz_; clear hb_ hr_ hz_))
  go_wp2
  go_ret
  exact ⟨by first | rfl | (simp; done), H.out.b⟩
theorem Cuts_1e {at_ c : Int} {m : Msg} {cx : Array Value} {w : World} (hm : IsMsg w cx m) (ha : AwakeC 11) (hf : fewB m = true) {R : List Int × Int} (hy : WriteC 16 1 m R) (hr0 : R.2 = 0) (hl0 : R.1.length = 0) :
    Calls Try.prog 10 #[.bool true, .agg cx, .int .u16 at_, .int .u8 c] w fun en w' => en = .returned (.bool true) ∧ Below w.heap.size w w' := by
  have H := Aside0.mk (Hd.start w)
  have hsz := hm.size
  have hix := msg_info hsz
  have n0_ := Aside0.mk ((((H.out.on (below_alloc (Below.refl _ _) (Obj.cells cx 30)))).add (sta_blk _ _) (blk_new _ _)).add (sta_msg _ _) (hm.on (below_alloc (Below.refl _ _) _)))
  clear H
  have H := n0_
  clear n0_
  have HA := Aside0.mk ha
  have HY := Aside0.mk hy
  clear hm ha hy
  have er : (R.2 != 0) = false := by rw [bne, beq_iff_eq.2 hr0]; rfl
  have er2 : (R.2 == 1) = false := by rw [hr0]; rfl
  have el : ((R.1.length : Int) == 0) = true := beq_iff_eq.2 (by omega)
  have el2 : (R.1.length == 0) = true := beq_iff_eq.2 hl0
  clear hr0
  go_enter Try.func10, Try.ntmps10
  go_upto_region 2 with (first | (go_at_call 11; (with_reducible refine (AwakeC.c HA.out _).mono ?_); rintro en wa ⟨rfl, hb_⟩; have n0_ := Aside0.mk (H.out.on hb_); clear H; have H := n0_; clear n0_; clear hb_))
  go_upto_region 3 with (first | ((with_reducible refine gate_dst (N := 19) rfl ?_); (try (refine gate_guard (by rfl) ?_; dsimp only)); refine ev_get (x := .tmp 5) rfl rfl rfl H.out.f.1.2 H.out.f.2 ?_) | (go_at_call 15; (with_reducible refine (few_msg H.out.f.2).mono ?_); rintro en ws ⟨rfl, hb_⟩; have n0_ := Aside0.mk (H.out.on hb_); clear H; have H := n0_; clear n0_; clear hb_))
  go_upto_region 8 with (fail)
  go_upto_region 9 with (first | ((with_reducible refine gate_dst (N := 27) rfl ?_); (try (refine gate_guard (by rfl) ?_; dsimp only)); refine ev_get (x := .tmp 5) rfl rfl rfl H.out.f.1.2 H.out.f.2 ?_) | (go_at_call 16; (with_reducible refine (WriteC.c HY.out H.out.f.2).mono ?_); rintro en wb ⟨Ab, cb, rfl, hz_, hr_, hb_⟩; have n0_ := Aside0.mk ((H.out.on hb_).add (sta_C _ _ _ _) (hr_)); clear H; have H := n0_; clear n0_; have Zb := Aside0.mk hz_; clear hb_ hr_ hz_))
  go_wp2
  go_ret
  exact ⟨by first | rfl | (simp; done), H.out.b⟩
theorem Cuts_11 {at_ c : Int} {m : Msg} {cx : Array Value} {w : World} (hm : IsMsg w cx m) (ha : AwakeC 11) (hf : fewB m = true) {R : List Int × Int} (hy : WriteC 16 1 m R) {S G : Msg × Int} {k : Nat} (hat : 0 ≤ at_ ∧ at_ < 65536) (hr0 : R.2 = 0) (hlb : R.1.length ≤ 1000000) (hk : Int.tmod at_ (R.1.length : Int) = (k : Int)) (hkl : k < R.1.length) (hs : PRob 12 1 m.code (R.1.take k) S) (hs2 : (S.2 ≠ 0 ∨ (S.2 = 0 ∧ sameB S.1 m = false))) (hg : PRob 12 1 m.code (R.1 ++ [c]) G) (hg2 : (G.2 ≠ 0 ∨ (G.2 = 0 ∧ sameB G.1 m = false))) :
    Calls Try.prog 10 #[.bool true, .agg cx, .int .u16 at_, .int .u8 c] w fun en w' => en = .returned (.bool true) ∧ Below w.heap.size w w' := by
  have H := Aside0.mk (Hd.start w)
  have hsz := hm.size
  have hix := msg_info hsz
  have n0_ := Aside0.mk ((((H.out.on (below_alloc (Below.refl _ _) (Obj.cells cx 30)))).add (sta_blk _ _) (blk_new _ _)).add (sta_msg _ _) (hm.on (below_alloc (Below.refl _ _) _)))
  clear H
  have H := n0_
  clear n0_
  have HA := Aside0.mk ha
  have HY := Aside0.mk hy
  clear hm ha hy
  have er : (R.2 != 0) = false := by rw [bne, beq_iff_eq.2 hr0]; rfl
  have er2 : (R.2 == 0) = true := beq_iff_eq.2 hr0
  have el : ((R.1.length : Int) == 0) = false := beq_eq_false_iff_ne.2 (by omega)
  have el2 : (R.1.length == 0) = false := beq_eq_false_iff_ne.2 (by omega)
  have HK := Aside0.mk hk
  have HKL := Aside0.mk hkl
  have LB := Aside0.mk hlb
  have HG := Aside0.mk hg
  have HP := Aside0.mk hs
  have HAT := Aside0.mk hat
  have HS2 := Aside0.mk hs2
  have HG2 := Aside0.mk hg2
  clear hs2 hg2
  have HS := Aside0.mk (show ∀ (A : Option Addr) (cc : Nat) (W : World), Kd.C (Kd.int .u8) W A R.1.length R.1 → k ≤ cc → Calls Try.prog 12 #[.int .i64 1, .int .u8 m.code, .slice A k cc] W fun en w' => ∃ cx, en = .returned (.tuple #[.agg cx, .int .i64 S.2]) ∧ (∀ W', Kept w' W' (fun k => k < W.heap.size) → IsMsg W' cx S.1) ∧ Below W.heap.size W w' from fun A cc W hC hcc => by have h := PRob.c HP.out (Kd.C_take hC (Nat.le_of_lt HKL.out)) (by rw [List.length_take]; omega) (c := cc); rw [show (R.1.take k).length = k from by rw [List.length_take]; have := HKL.out; omega] at h; exact h)
  clear hr0 hg hs hlb hat
  go_enter Try.func10, Try.ntmps10
  go_upto_region 2 with (first | (go_at_call 11; (with_reducible refine (AwakeC.c HA.out _).mono ?_); rintro en wa ⟨rfl, hb_⟩; have n0_ := Aside0.mk (H.out.on hb_); clear H; have H := n0_; clear n0_; clear hb_))
  go_upto_region 3 with (first | ((with_reducible refine gate_dst (N := 19) rfl ?_); (try (refine gate_guard (by rfl) ?_; dsimp only)); refine ev_get (x := .tmp 5) rfl rfl rfl H.out.f.1.2 H.out.f.2 ?_) | (go_at_call 15; (with_reducible refine (few_msg H.out.f.2).mono ?_); rintro en ws ⟨rfl, hb_⟩; have n0_ := Aside0.mk (H.out.on hb_); clear H; have H := n0_; clear n0_; clear hb_))
  go_upto_region 8 with (fail)
  go_upto_region 9 with (first | ((with_reducible refine gate_dst (N := 27) rfl ?_); (try (refine gate_guard (by rfl) ?_; dsimp only)); refine ev_get (x := .tmp 5) rfl rfl rfl H.out.f.1.2 H.out.f.2 ?_) | (go_at_call 16; (with_reducible refine (WriteC.c HY.out H.out.f.2).mono ?_); rintro en wb ⟨Ab, cb, rfl, hz_, hr_, hb_⟩; have n0_ := Aside0.mk ((H.out.on hb_).add (sta_C _ _ _ _) (hr_)); clear H; have H := n0_; clear n0_; have Zb := Aside0.mk hz_; clear hb_ hr_ hz_))
  go_upto_region 11 with (fail)
  have hne : R.1 ≠ [] := fun e => by have := HKL.out; rw [e] at this; exact absurd this (Nat.not_lt_zero _)
  have hwr : wrap64 at_ = at_ := wrap64_id (by have := HAT.out.1; omega) (by have := HAT.out.2; omega)
  have hcb : ¬ cb = 0 := by have := HKL.out; have := Zb.out; omega
  have hk := HK.out
  have hkl := HKL.out
  have hzb := Zb.out
  have hk2 : k ≤ cb := by omega
  have hn0 : (0 : Int) < (R.1.length : Int) := by omega
  have hki : (k : Int) ≤ (R.1.length : Int) := by omega
  have hkc : (k : Int) ≤ (cb : Int) := by omega
  have hk0 : (0 : Int) ≤ (k : Int) := by omega
  have RBD := Aside0.mk (H.out.dr.f.2)
  have kcd := Aside0.mk (bx_code (H.out.dr.f.1.1.2) (H.out.dr.f.1.2))
  have HB := Aside0.mk (Below.refl wb.drew.heap.size (wb.drew))
  have G9 := Aside0.mk (Nat.lt_of_le_of_lt (Nat.zero_le _) (World.block_lt_of_cell? _ _ kcd.out))
  refine start_ (n := 17) (S := fun w' => True) (ds := []) #[false, false, false, false, false, false, false, false, false, false, false, false, false, false, false, false, false] (by kernel_rfl) rfl rfl trivial (fun hHeld => ?_)
  refine with_tabW cuts.tab11 cuts.bits11 (fun HT_ HW_ => ?_)
  refine pure_ (i := 0) (N := some 49) (v := ?_) (a' := ?_) #[true, false, false, false, false, false, false, false, false, false, false, false, false, false, false, false, false] rfl rfl (any_of HT_.out (by kernel_rfl)) (fun _ _ _ h => h) (Or.inl ⟨by rfl, ?_⟩) ?_ ?_
  rotate_left
  · intro w'
    go_simp
    with_reducible rfl
  rotate_left
  · simp only [Act.put, List.setIfInBounds_toArray, List.set_cons_zero, List.set_cons_succ, i64_w, i32_w]
    rfl
  refine pure_ (i := 1) (N := some 50) (v := ?_) (a' := ?_) #[true, true, false, false, false, false, false, false, false, false, false, false, false, false, false, false, false] rfl rfl (any_of HT_.out (by kernel_rfl)) (fun _ _ _ h => h) (Or.inl ⟨by rfl, ?_⟩) ?_ ?_
  rotate_left
  · intro w'
    go_simp
    with_reducible rfl
  rotate_left
  · simp only [Act.put, List.setIfInBounds_toArray, List.set_cons_zero, List.set_cons_succ, i64_w, i32_w]
    rfl
  refine pure_ (i := 3) (N := some 52) (v := ?_) (a' := ?_) #[true, true, false, true, false, false, false, false, false, false, false, false, false, false, false, false, false] rfl rfl (any_of HT_.out (by kernel_rfl)) (fun _ _ _ h => h) (Or.inl ⟨by rfl, ?_⟩) ?_ ?_
  rotate_left
  · intro w'
    go_simp
    with_reducible rfl
  rotate_left
  · simp only [Act.put, List.setIfInBounds_toArray, List.set_cons_zero, List.set_cons_succ, i64_w, i32_w]
    rfl
  refine pure_ (i := 4) (N := some 53) (v := ?_) (a' := ?_) #[true, true, false, true, true, false, false, false, false, false, false, false, false, false, false, false, false] rfl rfl (any_of HT_.out (by kernel_rfl)) (fun _ _ _ h => h) (Or.inl ⟨by rfl, ?_⟩) ?_ ?_
  rotate_left
  · intro w'
    go_simp
    with_reducible rfl
  rotate_left
  · simp only [Act.put, List.setIfInBounds_toArray, List.set_cons_zero, List.set_cons_succ, i64_w, i32_w]
    rfl
  refine pure_ (i := 5) (N := some 54) (v := ?_) (a' := ?_) #[true, true, false, true, true, true, false, false, false, false, false, false, false, false, false, false, false] rfl rfl (any_of HT_.out (by kernel_rfl)) (fun _ _ _ h => h) (Or.inl ⟨by rfl, ?_⟩) ?_ ?_
  rotate_left
  · intro w'
    go_simp
    with_reducible rfl
  rotate_left
  · simp only [Act.put, List.setIfInBounds_toArray, List.set_cons_zero, List.set_cons_succ, i64_w, i32_w]
    rfl
  refine pure_ (i := 6) (N := some 55) (v := ?_) (a' := ?_) #[true, true, false, true, true, true, true, false, false, false, false, false, false, false, false, false, false] rfl rfl (any_of HT_.out (by kernel_rfl)) (fun _ _ _ h => h) (Or.inl ⟨by rfl, ?_⟩) ?_ ?_
  rotate_left
  · intro w'
    go_simp
    with_reducible rfl
  rotate_left
  · simp only [Act.put, List.setIfInBounds_toArray, List.set_cons_zero, List.set_cons_succ, i64_w, i32_w]
    rfl
  refine pure_ (i := 7) (N := some 56) (v := ?_) (a' := ?_) #[true, true, false, true, true, true, true, true, false, false, false, false, false, false, false, false, false] rfl rfl (any_of HT_.out (by kernel_rfl)) (fun _ _ _ h => h) (Or.inl ⟨by rfl, ?_⟩) ?_ ?_
  rotate_left
  · intro w'
    go_simp
    with_reducible rfl
  rotate_left
  · simp only [Act.put, List.setIfInBounds_toArray, List.set_cons_zero, List.set_cons_succ, i64_w, i32_w]
    rfl
  refine pure_ (i := 8) (N := some 57) (v := ?_) (a' := ?_) #[true, true, false, true, true, true, true, true, true, false, false, false, false, false, false, false, false] rfl rfl (any_of HT_.out (by kernel_rfl)) (fun _ _ _ h => h) (Or.inl ⟨by rfl, ?_⟩) ?_ ?_
  rotate_left
  · intro w'
    go_simp
    with_reducible rfl
  rotate_left
  · simp only [Act.put, List.setIfInBounds_toArray, List.set_cons_zero, List.set_cons_succ, i64_w, i32_w]
    rfl
  refine pure_ (i := 9) (N := some 58) (v := ?_) (a' := ?_) #[true, true, false, true, true, true, true, true, true, true, false, false, false, false, false, false, false] rfl rfl (any_of HT_.out (by kernel_rfl)) (fun _ _ _ h => h) (Or.inl ⟨by rfl, ?_⟩) ?_ ?_
  rotate_left
  · intro w'
    go_simp
    with_reducible rfl
  rotate_left
  · simp only [Act.put, List.setIfInBounds_toArray, List.set_cons_zero, List.set_cons_succ, i64_w, i32_w]
    rfl
  refine inv_at [2, 10, 11, 12, 13, 14, 15, 16] (fun a0_ b a w' => ∃ (cx9 : Array Value) (g9 : Nat) (m10_ : Value) (m11_ : Value) (m12_ : Value) (m14_ : Value), a = putSel a0_ b [(2, 51, .int .u8 m.code), (10, 59, m10_), (11, 48, m11_), (12, 60, m12_), (13, 61, .int .i64 S.2), (14, 14, m14_), (16, 15, .int .i64 S.2)] ∧ (Below wb.drew.heap.size wb.drew w') ∧ (g9 < w'.heap.size) ∧ (b 10 = true → ∀ W', Kept w' W' (fun k => k = g9) → IsMsg W' cx9 S.1) ∧ (b 14 = true → b 15 = false → w'.heap[g9]? = some (.cells zeroC 30 (0, 0)) ∧ wb.drew.heap.size ≤ g9) ∧ (b 15 = true → w'.heap[g9]? = some (.cells cx9 30 (0, 0))) ∧ (b 10 = true → (m10_ : Value) = .tuple #[.agg cx9, .int .i64 S.2]) ∧ (b 11 = true → (m11_ : Value) = .tuple #[.agg cx9, .int .i64 S.2]) ∧ (b 12 = true → (m12_ : Value) = .agg cx9) ∧ (b 14 = true → (m14_ : Value) = .pointer (some ⟨g9, 0, none⟩))) HT_.out HW_.out (by kernel_rfl) (by kernel_rfl) ?_ ?_ ?_
  · exact ⟨#[], 0, .bool false, .bool false, .bool false, .bool false, by simp only [putSel, Bool.false_eq_true, if_false], HB.out, G9.out, fun h_ => absurd h_ (by decide), fun h_ => absurd h_ (by decide), fun h_ => absurd h_ (by decide), fun h_ => absurd h_ (by decide), fun h_ => absurd h_ (by decide), fun h_ => absurd h_ (by decide), fun h_ => absurd h_ (by decide)⟩
  · skip
    clear G9 HB
    refine steps_cons ?_ ?_
    · rintro b a w' ⟨cx9, g9, m10_, m11_, m12_, m14_, ha, Q_HB, Q_G9, Q_M9, Q_B9, Q_C9, Q_X10_, Q_X11_, Q_X12_, Q_X14_⟩ hb_ hon hoff
      refine ⟨_, rfl, fun K hK => ?_⟩
      have e50 : a.tmps[50]? = some (.pointer (some ⟨w.heap.size, 0, none⟩)) := by rw [ha]; exact (putSel_off rfl).trans rfl
      replace ha := Aside0.mk ha
      have HB := Aside0.mk Q_HB
      have G9 := Aside0.mk Q_G9
      have hs2_ : w'.cell? ⟨w.heap.size, 0, none⟩ = some (.int .u8 m.code) := (HB.out.cell (World.block_lt_of_cell? _ _ kcd.out)).trans kcd.out
      refine value_ (w1 := w') (v := .int .u8 m.code) (by rfl) rfl ?_ ?_
      · go_simp
        (try simp only [i64_w])
        try rfl
      refine hK.out _ _ ⟨cx9, g9, m10_, m11_, m12_, m14_, (by rw [ha.out]; exact putSel_upk 0 hb_ rfl rfl rfl), Q_HB, Q_G9, fun h0_ => absurd ((hoff 10 (by kernel_rfl)).symm.trans h0_) (by decide), Q_B9, fun h0_ => absurd ((hoff 15 (by kernel_rfl)).symm.trans h0_) (by decide), fun h0_ => absurd ((hoff 10 (by kernel_rfl)).symm.trans h0_) (by decide), fun h0_ => absurd ((hoff 11 (by kernel_rfl)).symm.trans h0_) (by decide), fun h0_ => absurd ((hoff 12 (by kernel_rfl)).symm.trans h0_) (by decide), Q_X14_⟩
    refine steps_cons ?_ ?_
    · rintro b a w' ⟨cx9, g9, m10_, m11_, m12_, m14_, ha, Q_HB, Q_G9, Q_M9, Q_B9, Q_C9, Q_X10_, Q_X11_, Q_X12_, Q_X14_⟩ hb_ hon hoff
      refine ⟨_, rfl, fun K hK => ?_⟩
      have e49 : a.tmps[49]? = some (.int .i64 1) := by rw [ha]; exact (putSel_off rfl).trans rfl
      have e51 : a.tmps[51]? = some (.int .u8 m.code) := by rw [ha]; exact putSel_on (e := (2, 51, .int .u8 m.code)) 0 rfl rfl (hon 2 (by kernel_rfl)) rfl
      have e58 : a.tmps[58]? = some (.slice Ab k cb) := by rw [ha]; exact (putSel_off rfl).trans rfl
      replace ha := Aside0.mk ha
      have HB := Aside0.mk Q_HB
      have G9 := Aside0.mk Q_G9
      refine goes_ Try.func12 (by kernel_rfl) rfl #[.int .i64 1, .int .u8 m.code, .slice Ab k cb] (by rfl) rfl rfl (by first | (simp only [List.map_toArray, List.map_cons, List.map_nil, Act.eval, Array.getD_eq_getD_getElem?, Option.getD_some, e49, e51, e58]; done) | (simp only [List.map_toArray, List.map_cons, List.map_nil, Act.eval, Array.getD_eq_getD_getElem?, Option.getD_some, e49, e51, e58]; rfl)) ?_
      with_reducible refine (HS.out Ab cb _ (Kd.C_below RBD.out HB.out) (Nat.le_trans (Nat.le_of_lt HKL.out) Zb.out)).mono ?_
      rintro en w2 ⟨ncx_, rfl, nm_, hB_⟩
      refine ⟨_, rfl, ?_⟩
      have z_B9 := fun (h0_ : b 14 = true) (h1_ : b 15 = false) => (show w2.heap[g9]? = some (.cells zeroC 30 (0, 0)) ∧ wb.drew.heap.size ≤ g9 from ⟨blk_below (Q_B9 h0_ h1_).1 hB_, (Q_B9 h0_ h1_).2⟩)
      refine hK.out _ _ ⟨ncx_, g9, (.tuple #[.agg ncx_, .int .i64 S.2]), m11_, m12_, m14_, (by rw [ha.out]; exact putSel_upk 1 hb_ rfl rfl rfl), HB.out.trans (hB_.mono HB.out.size), Nat.lt_of_lt_of_le G9.out hB_.size, fun _ => (fun W' hk_ => nm_ W' (hk_.mono fun j hj => by rw [hj]; exact G9.out)), z_B9, fun h0_ => absurd ((hoff 15 (by kernel_rfl)).symm.trans h0_) (by decide), fun _ => rfl, fun h0_ => absurd ((hoff 11 (by kernel_rfl)).symm.trans h0_) (by decide), fun h0_ => absurd ((hoff 12 (by kernel_rfl)).symm.trans h0_) (by decide), Q_X14_⟩
    refine steps_cons ?_ ?_
    · rintro b a w' ⟨cx9, g9, m10_, m11_, m12_, m14_, ha, Q_HB, Q_G9, Q_M9, Q_B9, Q_C9, Q_X10_, Q_X11_, Q_X12_, Q_X14_⟩ hb_ hon hoff
      refine ⟨_, rfl, fun K hK => ?_⟩
      have e59 : a.tmps[59]? = some (m10_) := by rw [ha]; exact putSel_on (e := (10, 59, m10_)) 1 rfl rfl (hon 10 (by kernel_rfl)) rfl
      rw [Q_X10_ (hon 10 (by kernel_rfl))] at e59
      replace ha := Aside0.mk ha
      have HB := Aside0.mk Q_HB
      have G9 := Aside0.mk Q_G9
      have M9 := Aside0.mk (Q_M9 (hon 10 (by kernel_rfl)))
      refine value_ (w1 := w') (v := .tuple #[.agg cx9, .int .i64 S.2]) (by rfl) rfl ?_ ?_
      · go_simp
        (try simp only [i64_w])
        try rfl
      refine hK.out _ _ ⟨cx9, g9, m10_, (.tuple #[.agg cx9, .int .i64 S.2]), m12_, m14_, (by rw [ha.out]; exact putSel_upk 2 hb_ rfl rfl rfl), Q_HB, Q_G9, Q_M9, Q_B9, fun h0_ => absurd ((hoff 15 (by kernel_rfl)).symm.trans h0_) (by decide), Q_X10_, fun _ => rfl, fun h0_ => absurd ((hoff 12 (by kernel_rfl)).symm.trans h0_) (by decide), Q_X14_⟩
    refine steps_cons ?_ ?_
    · rintro b a w' ⟨cx9, g9, m10_, m11_, m12_, m14_, ha, Q_HB, Q_G9, Q_M9, Q_B9, Q_C9, Q_X10_, Q_X11_, Q_X12_, Q_X14_⟩ hb_ hon hoff
      refine ⟨_, rfl, fun K hK => ?_⟩
      have e48 : a.tmps[48]? = some (m11_) := by rw [ha]; exact putSel_on (e := (11, 48, m11_)) 2 rfl rfl (hon 11 (by kernel_rfl)) rfl
      rw [Q_X11_ (hon 11 (by kernel_rfl))] at e48
      replace ha := Aside0.mk ha
      have HB := Aside0.mk Q_HB
      have G9 := Aside0.mk Q_G9
      have M9 := Aside0.mk (Q_M9 (hon 10 (by kernel_rfl)))
      refine value_ (w1 := w') (v := .agg cx9) (by rfl) rfl ?_ ?_
      · go_simp
        (try simp only [i64_w])
        try rfl
      refine hK.out _ _ ⟨cx9, g9, m10_, m11_, (.agg cx9), m14_, (by rw [ha.out]; exact putSel_upk 3 hb_ rfl rfl rfl), Q_HB, Q_G9, Q_M9, Q_B9, fun h0_ => absurd ((hoff 15 (by kernel_rfl)).symm.trans h0_) (by decide), Q_X10_, Q_X11_, fun _ => rfl, Q_X14_⟩
    refine steps_cons ?_ ?_
    · rintro b a w' ⟨cx9, g9, m10_, m11_, m12_, m14_, ha, Q_HB, Q_G9, Q_M9, Q_B9, Q_C9, Q_X10_, Q_X11_, Q_X12_, Q_X14_⟩ hb_ hon hoff
      refine ⟨_, rfl, fun K hK => ?_⟩
      have e48 : a.tmps[48]? = some (m11_) := by rw [ha]; exact putSel_on (e := (11, 48, m11_)) 2 rfl rfl (hon 11 (by kernel_rfl)) rfl
      rw [Q_X11_ (hon 11 (by kernel_rfl))] at e48
      replace ha := Aside0.mk ha
      have HB := Aside0.mk Q_HB
      have G9 := Aside0.mk Q_G9
      have M9 := Aside0.mk (Q_M9 (hon 10 (by kernel_rfl)))
      refine value_ (w1 := w') (v := .int .i64 S.2) (by rfl) rfl ?_ ?_
      · go_simp
        (try simp only [i64_w])
        try rfl
      refine hK.out _ _ ⟨cx9, g9, m10_, m11_, m12_, m14_, (by rw [ha.out]; exact putSel_upk 4 hb_ rfl rfl rfl), Q_HB, Q_G9, Q_M9, Q_B9, Q_C9, Q_X10_, Q_X11_, Q_X12_, Q_X14_⟩
    refine steps_cons ?_ ?_
    · rintro b a w' ⟨cx9, g9, m10_, m11_, m12_, m14_, ha, Q_HB, Q_G9, Q_M9, Q_B9, Q_C9, Q_X10_, Q_X11_, Q_X12_, Q_X14_⟩ hb_ hon hoff
      refine ⟨_, rfl, fun K hK => ?_⟩
      replace ha := Aside0.mk ha
      have HB := Aside0.mk Q_HB
      have G9 := Aside0.mk Q_G9
      refine alloc_ (by rfl) rfl ?_
      have z_M9 := fun (h0_ : b 10 = true) => (show ∀ W', Kept (w'.alloc (.cells zeroC 30)) W' (fun k => k = w'.heap.size) → IsMsg W' cx9 S.1 from fun W' hk_ => Q_M9 h0_ W' (kept_alloc hk_))
      refine hK.out _ _ ⟨cx9, w'.heap.size, m10_, m11_, m12_, (.pointer (some ⟨w'.heap.size, 0, none⟩)), (by rw [ha.out]; exact putSel_upk 5 hb_ rfl rfl rfl), below_alloc' HB.out _, size_alloc _ _, z_M9, fun _ _ => ⟨blk_new _ _, HB.out.size⟩, fun h0_ => absurd ((hoff 15 (by kernel_rfl)).symm.trans h0_) (by decide), Q_X10_, Q_X11_, Q_X12_, fun _ => rfl⟩
    refine steps_cons ?_ ?_
    · rintro b a w' ⟨cx9, g9, m10_, m11_, m12_, m14_, ha, Q_HB, Q_G9, Q_M9, Q_B9, Q_C9, Q_X10_, Q_X11_, Q_X12_, Q_X14_⟩ hb_ hon hoff
      refine ⟨_, rfl, fun K hK => ?_⟩
      have e14 : a.tmps[14]? = some (m14_) := by rw [ha]; exact putSel_on (e := (14, 14, m14_)) 5 rfl rfl (hon 14 (by kernel_rfl)) rfl
      rw [Q_X14_ (hon 14 (by kernel_rfl))] at e14
      have e60 : a.tmps[60]? = some (m12_) := by rw [ha]; exact putSel_on (e := (12, 60, m12_)) 3 rfl rfl (hon 12 (by kernel_rfl)) rfl
      rw [Q_X12_ (hon 12 (by kernel_rfl))] at e60
      replace ha := Aside0.mk ha
      have HB := Aside0.mk Q_HB
      have G9 := Aside0.mk Q_G9
      have M9 := Aside0.mk (Q_M9 (hon 10 (by kernel_rfl)))
      have B9 := Aside0.mk (Q_B9 (hon 14 (by kernel_rfl)) hb_)
      refine putm_ (x := .tmp 14) (y := .tmp 60) (by rfl) rfl rfl (by simp only [Act.eval, Array.getD_eq_getD_getElem?, Option.getD_some, e14]) (by simp only [Act.eval, Array.getD_eq_getD_getElem?, Option.getD_some, e60]) B9.out.1 rfl (M9.out _ (Kept.refl _ _)) ?_
      intro w2 hk_ hu_
      refine hK.out _ _ ⟨cx9, g9, m10_, m11_, m12_, m14_, (by rw [ha.out]; exact putSel_none (v := undef) rfl), HB.out.trans (hu_.below B9.out.2 HB.out.size), Nat.lt_of_lt_of_le G9.out (hu_.below B9.out.2 HB.out.size).size, fun _ => (fun W' hk2_ => M9.out W' (hu_.kept.then_ hk2_ (fun j hj => .inl hj))), fun _ h1_ => absurd ((up_self b 15).symm.trans h1_) (by decide), fun _ => hk_, Q_X10_, Q_X11_, Q_X12_, Q_X14_⟩
    refine steps_cons ?_ ?_
    · rintro b a w' ⟨cx9, g9, m10_, m11_, m12_, m14_, ha, Q_HB, Q_G9, Q_M9, Q_B9, Q_C9, Q_X10_, Q_X11_, Q_X12_, Q_X14_⟩ hb_ hon hoff
      refine ⟨_, rfl, fun K hK => ?_⟩
      have e61 : a.tmps[61]? = some (.int .i64 S.2) := by rw [ha]; exact putSel_on (e := (13, 61, .int .i64 S.2)) 4 rfl rfl (hon 13 (by kernel_rfl)) rfl
      replace ha := Aside0.mk ha
      have HB := Aside0.mk Q_HB
      have G9 := Aside0.mk Q_G9
      have M9 := Aside0.mk (Q_M9 (hon 10 (by kernel_rfl)))
      have C9 := Aside0.mk (Q_C9 (hon 15 (by kernel_rfl)))
      refine value_ (w1 := w') (v := .int .i64 S.2) (by rfl) rfl ?_ ?_
      · go_simp
        (try simp only [i64_w])
        try rfl
      refine hK.out _ _ ⟨cx9, g9, m10_, m11_, m12_, m14_, (by rw [ha.out]; exact putSel_upk 6 hb_ rfl rfl rfl), Q_HB, Q_G9, Q_M9, fun _ h1_ => absurd ((hon 15 (by kernel_rfl)).symm.trans h1_) (by decide), Q_C9, Q_X10_, Q_X11_, Q_X12_, Q_X14_⟩
    exact steps_nil
  rintro b a w11 hall ⟨cx9, g9, m10_, m11_, m12_, m14_, ha, Q_HB, Q_G9, Q_M9, Q_B9, Q_C9, Q_X10_, Q_X11_, Q_X12_, Q_X14_⟩
  clear G9 HB
  have hb2_ := hall 2 (by kernel_rfl)
  have hb10_ := hall 10 (by kernel_rfl)
  have hb11_ := hall 11 (by kernel_rfl)
  have hb12_ := hall 12 (by kernel_rfl)
  have hb13_ := hall 13 (by kernel_rfl)
  have hb14_ := hall 14 (by kernel_rfl)
  have hb15_ := hall 15 (by kernel_rfl)
  have hb16_ := hall 16 (by kernel_rfl)
  subst ha
  obtain rfl := Q_X10_ hb10_
  obtain rfl := Q_X11_ hb11_
  obtain rfl := Q_X12_ hb12_
  obtain rfl := Q_X14_ hb14_
  simp only [putSel, hb2_, hb10_, hb11_, hb12_, hb13_, hb14_, hb15_, hb16_, if_true, Act.put, List.setIfInBounds_toArray, List.set_cons_zero, List.set_cons_succ]
  have HB := Aside0.mk Q_HB
  clear Q_HB
  have G9 := Aside0.mk Q_G9
  clear Q_G9
  have M9 := Aside0.mk (Q_M9 hb10_)
  clear Q_M9
  clear Q_B9
  have C9 := Aside0.mk (Q_C9 hb15_)
  clear Q_C9
  clear hall hb2_ hb10_ hb11_ hb12_ hb13_ hb14_ hb15_ hb16_
  have n0_ := Aside0.mk ((((H.out.dr).on HB.out).add (sta_blk _ _) (C9.out)).add (sta_msg _ _) (M9.out _ (Kept.refl _ _)))
  clear H HB kcd RBD G9 M9 C9
  have H := n0_
  clear n0_
  clear hne hwr hcb hk hkl hzb hk2 hn0 hki hkc hk0
  go_upto_region 12 with (fail)
  have RBD := Aside0.mk (H.out.dr.f.1.1.2)
  have kcd := Aside0.mk (bx_code (H.out.dr.f.1.1.1.1.2) (H.out.dr.f.1.1.1.2))
  have HB := Aside0.mk (Below.refl w11.drew.heap.size (w11.drew))
  have G9 := Aside0.mk (Nat.lt_of_le_of_lt (Nat.zero_le _) (World.block_lt_of_cell? _ _ kcd.out))
  refine start_ (n := 16) (S := fun w' => True) (ds := []) #[false, false, false, false, false, false, false, false, false, false, false, false, false, false, false, false] (by kernel_rfl) rfl rfl trivial (fun hHeld => ?_)
  refine with_tabW cuts.tab12 cuts.bits12 (fun HT_ HW_ => ?_)
  refine pure_ (i := 0) (N := some 63) (v := ?_) (a' := ?_) #[true, false, false, false, false, false, false, false, false, false, false, false, false, false, false, false] rfl rfl (any_of HT_.out (by kernel_rfl)) (fun _ _ _ h => h) (Or.inl ⟨by rfl, ?_⟩) ?_ ?_
  rotate_left
  · intro w'
    go_simp
    with_reducible rfl
  rotate_left
  · simp only [Act.put, List.setIfInBounds_toArray, List.set_cons_zero, List.set_cons_succ, i64_w, i32_w]
    rfl
  refine pure_ (i := 1) (N := some 64) (v := ?_) (a' := ?_) #[true, true, false, false, false, false, false, false, false, false, false, false, false, false, false, false] rfl rfl (any_of HT_.out (by kernel_rfl)) (fun _ _ _ h => h) (Or.inl ⟨by rfl, ?_⟩) ?_ ?_
  rotate_left
  · intro w'
    go_simp
    with_reducible rfl
  rotate_left
  · simp only [Act.put, List.setIfInBounds_toArray, List.set_cons_zero, List.set_cons_succ, i64_w, i32_w]
    rfl
  refine pure_ (i := 4) (N := some 67) (v := ?_) (a' := ?_) #[true, true, false, false, true, false, false, false, false, false, false, false, false, false, false, false] rfl rfl (any_of HT_.out (by kernel_rfl)) (fun _ _ _ h => h) (Or.inl ⟨by rfl, ?_⟩) ?_ ?_
  rotate_left
  · intro w'
    go_simp
    with_reducible rfl
  rotate_left
  · simp only [Act.put, List.setIfInBounds_toArray, List.set_cons_zero, List.set_cons_succ, i64_w, i32_w]
    rfl
  refine pure_ (i := 6) (N := some 69) (v := ?_) (a' := ?_) #[true, true, false, false, true, false, true, false, false, false, false, false, false, false, false, false] rfl rfl (any_of HT_.out (by kernel_rfl)) (fun _ _ _ h => h) (Or.inl ⟨by rfl, ?_⟩) ?_ ?_
  rotate_left
  · intro w'
    go_simp
    with_reducible rfl
  rotate_left
  · simp only [Act.put, List.setIfInBounds_toArray, List.set_cons_zero, List.set_cons_succ, i64_w, i32_w]
    rfl
  refine inv_at [2, 3, 5, 7, 8, 9, 10, 11, 12, 13, 14, 15] (fun a0_ b a w' => ∃ (v3 : Value) (v5 : Value) (v7 : Value) (v8 : Value) (cx9 : Array Value) (g9 : Nat) (m9_ : Value) (m10_ : Value) (m11_ : Value) (m13_ : Value), a = putSel a0_ b [(2, 65, .int .u8 m.code), (3, 66, v3), (5, 68, v5), (7, 70, v7), (8, 71, v8), (9, 72, m9_), (10, 62, m10_), (11, 73, m11_), (12, 74, .int .i64 G.2), (13, 16, m13_), (15, 17, .int .i64 G.2)] ∧ (Below w11.drew.heap.size w11.drew w') ∧ (b 3 = true → b 5 = false → Kd.R (Kd.int .u8) 5 w' w11.drew.heap.size (fun _ => True) v3 (([] : List Int))) ∧ (b 7 = true → b 8 = false → Kd.R (Kd.int .u8) 5 w' w11.drew.heap.size (fun _ => True) v7 ([c])) ∧ (b 3 = true → b 7 = true → b 5 = false → ∀ q_, v7.ownBlock = some q_ → some q_ ≠ v3.ownBlock) ∧ (b 5 = true → b 8 = false → Kd.R (Kd.int .u8) 5 w' w11.drew.heap.size (fun _ => True) v5 (R.1)) ∧ (b 8 = true → b 9 = false → Kd.R (Kd.int .u8) 5 w' w11.drew.heap.size (fun _ => True) v8 (R.1 ++ [c])) ∧ (g9 < w'.heap.size) ∧ (b 9 = true → ∀ W', Kept w' W' (fun k => k = g9) → IsMsg W' cx9 G.1) ∧ (b 13 = true → b 14 = false → w'.heap[g9]? = some (.cells zeroC 30 (0, 0)) ∧ w11.drew.heap.size ≤ g9) ∧ (b 14 = true → w'.heap[g9]? = some (.cells cx9 30 (0, 0))) ∧ (b 9 = true → (m9_ : Value) = .tuple #[.agg cx9, .int .i64 G.2]) ∧ (b 10 = true → (m10_ : Value) = .tuple #[.agg cx9, .int .i64 G.2]) ∧ (b 11 = true → (m11_ : Value) = .agg cx9) ∧ (b 13 = true → (m13_ : Value) = .pointer (some ⟨g9, 0, none⟩))) HT_.out HW_.out (by kernel_rfl) (by kernel_rfl) ?_ ?_ ?_
  · exact ⟨.bool false, .bool false, .bool false, .bool false, #[], 0, .bool false, .bool false, .bool false, .bool false, by simp only [putSel, Bool.false_eq_true, if_false], HB.out, fun h_ => absurd h_ (by decide), fun h_ => absurd h_ (by decide), fun h_ => absurd h_ (by decide), fun h_ => absurd h_ (by decide), fun h_ => absurd h_ (by decide), G9.out, fun h_ => absurd h_ (by decide), fun h_ => absurd h_ (by decide), fun h_ => absurd h_ (by decide), fun h_ => absurd h_ (by decide), fun h_ => absurd h_ (by decide), fun h_ => absurd h_ (by decide), fun h_ => absurd h_ (by decide)⟩
  · skip
    clear G9 HB
    refine steps_cons ?_ ?_
    · rintro b a w' ⟨v3, v5, v7, v8, cx9, g9, m9_, m10_, m11_, m13_, ha, Q_HB, Q_R3, Q_R7, Q_D37, Q_R5, Q_R8, Q_G9, Q_M9, Q_B9, Q_C9, Q_X9_, Q_X10_, Q_X11_, Q_X13_⟩ hb_ hon hoff
      refine ⟨_, rfl, fun K hK => ?_⟩
      have e64 : a.tmps[64]? = some (.pointer (some ⟨w.heap.size, 0, none⟩)) := by rw [ha]; exact (putSel_off rfl).trans rfl
      replace ha := Aside0.mk ha
      have HB := Aside0.mk Q_HB
      have G9 := Aside0.mk Q_G9
      have hs2_ : w'.cell? ⟨w.heap.size, 0, none⟩ = some (.int .u8 m.code) := (HB.out.cell (World.block_lt_of_cell? _ _ kcd.out)).trans kcd.out
      refine value_ (w1 := w') (v := .int .u8 m.code) (by rfl) rfl ?_ ?_
      · go_simp
        (try simp only [i64_w])
        try rfl
      refine hK.out _ _ ⟨v3, v5, v7, v8, cx9, g9, m9_, m10_, m11_, m13_, (by rw [ha.out]; exact putSel_upk 0 hb_ rfl rfl rfl), Q_HB, Q_R3, Q_R7, Q_D37, Q_R5, Q_R8, Q_G9, fun h0_ => absurd ((hoff 9 (by kernel_rfl)).symm.trans h0_) (by decide), Q_B9, fun h0_ => absurd ((hoff 14 (by kernel_rfl)).symm.trans h0_) (by decide), fun h0_ => absurd ((hoff 9 (by kernel_rfl)).symm.trans h0_) (by decide), fun h0_ => absurd ((hoff 10 (by kernel_rfl)).symm.trans h0_) (by decide), fun h0_ => absurd ((hoff 11 (by kernel_rfl)).symm.trans h0_) (by decide), Q_X13_⟩
    refine steps_cons ?_ ?_
    · rintro b a w' ⟨v3, v5, v7, v8, cx9, g9, m9_, m10_, m11_, m13_, ha, Q_HB, Q_R3, Q_R7, Q_D37, Q_R5, Q_R8, Q_G9, Q_M9, Q_B9, Q_C9, Q_X9_, Q_X10_, Q_X11_, Q_X13_⟩ hb_ hon hoff
      refine ⟨_, rfl, fun K hK => ?_⟩
      replace ha := Aside0.mk ha
      have HB := Aside0.mk Q_HB
      have G9 := Aside0.mk Q_G9
      refine Kd.R_lit_step (Kd.int .u8) (w0 := w11.drew) w11.drew.heap.size 5 (by rfl) (N := 66) rfl (xs := ([] : List Int)) (inner := []) (ok := fun _ => True) (okp := fun _ => True) ?hr (Reps.none _ _) (fun _ hk => hk) trivial HB.out HB.out.size (by simp) ?_
      case hr => first | (go_simp; done) | (go_simp; rfl)
      intro nv_ w2 hR_ hB_ hg_ hn_
      have z_B9 := fun (h0_ : b 13 = true) (h1_ : b 14 = false) => (show w2.heap[g9]? = some (.cells zeroC 30 (0, 0)) ∧ w11.drew.heap.size ≤ g9 from ⟨blk_grown (Q_B9 h0_ h1_).1 hg_ (by simp), (Q_B9 h0_ h1_).2⟩)
      have z_R7 := fun (h0_ : b 7 = true) (h1_ : b 8 = false) => (show Kd.R (Kd.int .u8) 5 w2 w11.drew.heap.size (fun _ => True) v7 ([c]) from Kd.R_grown (Q_R7 h0_ h1_) hg_ (fun _ _ => by simp))
      have z_D37 := fun (_ : up b 3 3 = true) (h1_ : up b 3 7 = true) (_ : up b 3 5 = false) => (show ∀ q_, v7.ownBlock = some q_ → some q_ ≠ nv_.ownBlock from fun q_ hq e_ => by obtain ⟨t_, e1_, e2_⟩ := hn_; have h3_ := Kd.R_lt (Q_R7 h1_ (hoff 8 (by kernel_rfl))) q_ hq; rw [e1_] at e_; injection e_ with e_; omega)
      refine hK.out _ _ ⟨nv_, v5, v7, v8, cx9, g9, m9_, m10_, m11_, m13_, (by rw [ha.out]; exact putSel_upk 1 hb_ rfl rfl rfl), hB_, fun _ _ => hR_, z_R7, fun _ _ _ => (z_D37 (by assumption) (by assumption) (by assumption)), fun h0_ _ => absurd ((hoff 5 (by kernel_rfl)).symm.trans h0_) (by decide), fun h0_ _ => absurd ((hoff 8 (by kernel_rfl)).symm.trans h0_) (by decide), Nat.lt_of_lt_of_le G9.out hg_.size, fun h0_ => absurd ((hoff 9 (by kernel_rfl)).symm.trans h0_) (by decide), z_B9, fun h0_ => absurd ((hoff 14 (by kernel_rfl)).symm.trans h0_) (by decide), fun h0_ => absurd ((hoff 9 (by kernel_rfl)).symm.trans h0_) (by decide), fun h0_ => absurd ((hoff 10 (by kernel_rfl)).symm.trans h0_) (by decide), fun h0_ => absurd ((hoff 11 (by kernel_rfl)).symm.trans h0_) (by decide), Q_X13_⟩
    refine steps_cons ?_ ?_
    · rintro b a w' ⟨v3, v5, v7, v8, cx9, g9, m9_, m10_, m11_, m13_, ha, Q_HB, Q_R3, Q_R7, Q_D37, Q_R5, Q_R8, Q_G9, Q_M9, Q_B9, Q_C9, Q_X9_, Q_X10_, Q_X11_, Q_X13_⟩ hb_ hon hoff
      refine ⟨_, rfl, fun K hK => ?_⟩
      have e66 : a.tmps[66]? = some (v3) := by rw [ha]; exact putSel_on (e := (3, 66, v3)) 1 rfl rfl (hon 3 (by kernel_rfl)) rfl
      have e67 : a.tmps[67]? = some (.slice Ab R.1.length cb) := by rw [ha]; exact (putSel_off rfl).trans rfl
      replace ha := Aside0.mk ha
      have HB := Aside0.mk Q_HB
      have R3 := Aside0.mk (Q_R3 (hon 3 (by kernel_rfl)) hb_)
      have G9 := Aside0.mk Q_G9
      have HX_ : a.eval (.tmp 67) = .slice Ab R.1.length cb := (by simp only [Act.eval, Array.getD_eq_getD_getElem?, Option.getD_some, e67])
      refine Kd.R_append_rows_step (Kd.int .u8) (w0 := w11.drew) w11.drew.heap.size (by rfl) (.tmp 66) (.tmp 67) 22 5 (.int .u8 0) 1 rfl Try.underlying22 (by kernel_rfl) rfl (by decide) (by decide) v3 ([] : List Int) R.1 Ab R.1.length cb (fun _ => True) (fun _ => False) (by simp only [Act.eval, Array.getD_eq_getD_getElem?, Option.getD_some, e66]) HX_ R3.out (Kd.C_below RBD.out HB.out) (fun _ _ h => h) (fun _ h => h.elim) (fun _ _ => trivial) HB.out HB.out.size (by have := LB.out; simp only [List.length_nil]; omega) ?_
      intro nv_ w2 hR_ hB_ hg_ hat_
      rw [List.nil_append] at hR_
      have z_B9 := fun (h0_ : b 13 = true) (h1_ : b 14 = false) => (show w2.heap[g9]? = some (.cells zeroC 30 (0, 0)) ∧ w11.drew.heap.size ≤ g9 from ⟨blk_grown (Q_B9 h0_ h1_).1 hg_ (Kd.R_ne R3.out (Q_B9 h0_ h1_).1 (by decide)), (Q_B9 h0_ h1_).2⟩)
      have z_R7 := fun (h0_ : b 7 = true) (h1_ : b 8 = false) => (show Kd.R (Kd.int .u8) 5 w2 w11.drew.heap.size (fun _ => True) v7 ([c]) from R_int_ok (Kd.R_grown (R_int_ok (ok' := fun q_ => some q_ ≠ v3.ownBlock) (Q_R7 h0_ h1_) (Q_D37 (hon 3 (by kernel_rfl)) h0_ hb_)) hg_ (fun _ h => h)) (fun _ _ => trivial))
      refine hK.out _ _ ⟨v3, nv_, v7, v8, cx9, g9, m9_, m10_, m11_, m13_, (by rw [ha.out]; exact putSel_upk 2 hb_ rfl rfl rfl), hB_, fun _ h1_ => absurd ((up_self b 5).symm.trans h1_) (by decide), z_R7, fun _ _ h2_ => absurd ((up_self b 5).symm.trans h2_) (by decide), fun _ _ => hR_, fun h0_ _ => absurd ((hoff 8 (by kernel_rfl)).symm.trans h0_) (by decide), Nat.lt_of_lt_of_le G9.out hg_.size, fun h0_ => absurd ((hoff 9 (by kernel_rfl)).symm.trans h0_) (by decide), z_B9, fun h0_ => absurd ((hoff 14 (by kernel_rfl)).symm.trans h0_) (by decide), fun h0_ => absurd ((hoff 9 (by kernel_rfl)).symm.trans h0_) (by decide), fun h0_ => absurd ((hoff 10 (by kernel_rfl)).symm.trans h0_) (by decide), fun h0_ => absurd ((hoff 11 (by kernel_rfl)).symm.trans h0_) (by decide), Q_X13_⟩
    refine steps_cons ?_ ?_
    · rintro b a w' ⟨v3, v5, v7, v8, cx9, g9, m9_, m10_, m11_, m13_, ha, Q_HB, Q_R3, Q_R7, Q_D37, Q_R5, Q_R8, Q_G9, Q_M9, Q_B9, Q_C9, Q_X9_, Q_X10_, Q_X11_, Q_X13_⟩ hb_ hon hoff
      refine ⟨_, rfl, fun K hK => ?_⟩
      have e69 : a.tmps[69]? = some (.int .u8 c) := by rw [ha]; exact (putSel_off rfl).trans rfl
      replace ha := Aside0.mk ha
      have HB := Aside0.mk Q_HB
      have G9 := Aside0.mk Q_G9
      refine Kd.R_lit_step (Kd.int .u8) (w0 := w11.drew) w11.drew.heap.size 5 (by rfl) (N := 70) rfl (xs := [c]) (inner := [.int .u8 c]) (ok := fun _ => True) (okp := fun _ => True) ?hr (Reps.one (show Kd.M (Kd.int .u8) _ _ _ c [.int .u8 c] from rfl) (Reps.none _ _)) (fun _ hk => hk) trivial HB.out HB.out.size (by simp) ?_
      case hr => first | (go_simp; done) | (go_simp; rfl)
      intro nv_ w2 hR_ hB_ hg_ hn_
      have z_B9 := fun (h0_ : b 13 = true) (h1_ : b 14 = false) => (show w2.heap[g9]? = some (.cells zeroC 30 (0, 0)) ∧ w11.drew.heap.size ≤ g9 from ⟨blk_grown (Q_B9 h0_ h1_).1 hg_ (by simp), (Q_B9 h0_ h1_).2⟩)
      have z_R3 := fun (h0_ : b 3 = true) (h1_ : b 5 = false) => (show Kd.R (Kd.int .u8) 5 w2 w11.drew.heap.size (fun _ => True) v3 (([] : List Int)) from Kd.R_grown (Q_R3 h0_ h1_) hg_ (fun _ _ => by simp))
      have z_R5 := fun (h0_ : b 5 = true) (h1_ : b 8 = false) => (show Kd.R (Kd.int .u8) 5 w2 w11.drew.heap.size (fun _ => True) v5 (R.1) from Kd.R_grown (Q_R5 h0_ h1_) hg_ (fun _ _ => by simp))
      have z_D37 := fun (h1_ : up b 7 3 = true) (_ : up b 7 7 = true) (h2_ : up b 7 5 = false) => (show ∀ q_, nv_.ownBlock = some q_ → some q_ ≠ v3.ownBlock from fun q_ hq e_ => by obtain ⟨t_, e1_, e2_⟩ := hn_; have h3_ := Kd.R_lt (Q_R3 h1_ h2_) q_ e_.symm; rw [e1_] at hq; injection hq with hq; omega)
      refine hK.out _ _ ⟨v3, v5, nv_, v8, cx9, g9, m9_, m10_, m11_, m13_, (by rw [ha.out]; exact putSel_upk 3 hb_ rfl rfl rfl), hB_, z_R3, fun _ _ => hR_, fun _ _ _ => (z_D37 (by assumption) (by assumption) (by assumption)), z_R5, fun h0_ _ => absurd ((hoff 8 (by kernel_rfl)).symm.trans h0_) (by decide), Nat.lt_of_lt_of_le G9.out hg_.size, fun h0_ => absurd ((hoff 9 (by kernel_rfl)).symm.trans h0_) (by decide), z_B9, fun h0_ => absurd ((hoff 14 (by kernel_rfl)).symm.trans h0_) (by decide), fun h0_ => absurd ((hoff 9 (by kernel_rfl)).symm.trans h0_) (by decide), fun h0_ => absurd ((hoff 10 (by kernel_rfl)).symm.trans h0_) (by decide), fun h0_ => absurd ((hoff 11 (by kernel_rfl)).symm.trans h0_) (by decide), Q_X13_⟩
    refine steps_cons ?_ ?_
    · rintro b a w' ⟨v3, v5, v7, v8, cx9, g9, m9_, m10_, m11_, m13_, ha, Q_HB, Q_R3, Q_R7, Q_D37, Q_R5, Q_R8, Q_G9, Q_M9, Q_B9, Q_C9, Q_X9_, Q_X10_, Q_X11_, Q_X13_⟩ hb_ hon hoff
      refine ⟨_, rfl, fun K hK => ?_⟩
      have e68 : a.tmps[68]? = some (v5) := by rw [ha]; exact putSel_on (e := (5, 68, v5)) 2 rfl rfl (hon 5 (by kernel_rfl)) rfl
      have e70 : a.tmps[70]? = some (v7) := by rw [ha]; exact putSel_on (e := (7, 70, v7)) 3 rfl rfl (hon 7 (by kernel_rfl)) rfl
      replace ha := Aside0.mk ha
      have HB := Aside0.mk Q_HB
      have R7 := Aside0.mk (Q_R7 (hon 7 (by kernel_rfl)) hb_)
      have R5 := Aside0.mk (Q_R5 (hon 5 (by kernel_rfl)) hb_)
      have G9 := Aside0.mk Q_G9
      obtain ⟨A7_, c7_, e7_, hc7_, hr7_⟩ := Kd.R_reads R7.out
      have HX_ : a.eval (.tmp 70) = .slice A7_ [c].length c7_ := by rw [← e7_]; exact (by simp only [Act.eval, Array.getD_eq_getD_getElem?, Option.getD_some, e70])
      refine Kd.R_append_rows_step (Kd.int .u8) (w0 := w11.drew) w11.drew.heap.size (by rfl) (.tmp 68) (.tmp 70) 22 5 (.int .u8 0) 1 rfl Try.underlying22 (by kernel_rfl) rfl (by decide) (by decide) v5 R.1 [c] A7_ [c].length c7_ (fun _ => True) (fun _ => False) (by simp only [Act.eval, Array.getD_eq_getD_getElem?, Option.getD_some, e68]) HX_ R5.out hr7_ (fun _ _ h => h) (fun _ h => h.elim) (fun _ _ => trivial) HB.out HB.out.size (by have := LB.out; simp only [List.length_cons, List.length_nil]; omega) ?_
      intro nv_ w2 hR_ hB_ hg_ hat_
      have z_B9 := fun (h0_ : b 13 = true) (h1_ : b 14 = false) => (show w2.heap[g9]? = some (.cells zeroC 30 (0, 0)) ∧ w11.drew.heap.size ≤ g9 from ⟨blk_grown (Q_B9 h0_ h1_).1 hg_ (Kd.R_ne R5.out (Q_B9 h0_ h1_).1 (by decide)), (Q_B9 h0_ h1_).2⟩)
      refine hK.out _ _ ⟨v3, v5, v7, nv_, cx9, g9, m9_, m10_, m11_, m13_, (by rw [ha.out]; exact putSel_upk 4 hb_ rfl rfl rfl), hB_, fun _ h1_ => absurd ((hon 5 (by kernel_rfl)).symm.trans h1_) (by decide), fun _ h1_ => absurd ((up_self b 8).symm.trans h1_) (by decide), fun _ _ h2_ => absurd ((hon 5 (by kernel_rfl)).symm.trans h2_) (by decide), fun _ h1_ => absurd ((up_self b 8).symm.trans h1_) (by decide), fun _ _ => hR_, Nat.lt_of_lt_of_le G9.out hg_.size, fun h0_ => absurd ((hoff 9 (by kernel_rfl)).symm.trans h0_) (by decide), z_B9, fun h0_ => absurd ((hoff 14 (by kernel_rfl)).symm.trans h0_) (by decide), fun h0_ => absurd ((hoff 9 (by kernel_rfl)).symm.trans h0_) (by decide), fun h0_ => absurd ((hoff 10 (by kernel_rfl)).symm.trans h0_) (by decide), fun h0_ => absurd ((hoff 11 (by kernel_rfl)).symm.trans h0_) (by decide), Q_X13_⟩
    refine steps_cons ?_ ?_
    · rintro b a w' ⟨v3, v5, v7, v8, cx9, g9, m9_, m10_, m11_, m13_, ha, Q_HB, Q_R3, Q_R7, Q_D37, Q_R5, Q_R8, Q_G9, Q_M9, Q_B9, Q_C9, Q_X9_, Q_X10_, Q_X11_, Q_X13_⟩ hb_ hon hoff
      refine ⟨_, rfl, fun K hK => ?_⟩
      have e63 : a.tmps[63]? = some (.int .i64 1) := by rw [ha]; exact (putSel_off rfl).trans rfl
      have e65 : a.tmps[65]? = some (.int .u8 m.code) := by rw [ha]; exact putSel_on (e := (2, 65, .int .u8 m.code)) 0 rfl rfl (hon 2 (by kernel_rfl)) rfl
      have e71 : a.tmps[71]? = some (v8) := by rw [ha]; exact putSel_on (e := (8, 71, v8)) 4 rfl rfl (hon 8 (by kernel_rfl)) rfl
      replace ha := Aside0.mk ha
      have HB := Aside0.mk Q_HB
      have R8 := Aside0.mk (Q_R8 (hon 8 (by kernel_rfl)) hb_)
      have G9 := Aside0.mk Q_G9
      obtain ⟨A8_, c8_, e8_, hc8_, hr8_⟩ := Kd.R_reads R8.out
      rw [e8_] at e71
      refine goes_ Try.func12 (by kernel_rfl) rfl #[.int .i64 1, .int .u8 m.code, .slice A8_ (R.1 ++ [c]).length c8_] (by rfl) rfl rfl (by first | (simp only [List.map_toArray, List.map_cons, List.map_nil, Act.eval, Array.getD_eq_getD_getElem?, Option.getD_some, e63, e65, e71]; done) | (simp only [List.map_toArray, List.map_cons, List.map_nil, Act.eval, Array.getD_eq_getD_getElem?, Option.getD_some, e63, e65, e71]; rfl)) ?_
      with_reducible refine (PRob.c HG.out hr8_ hc8_).mono ?_
      rintro en w2 ⟨ncx_, rfl, nm_, hB_⟩
      refine ⟨_, rfl, ?_⟩
      have z_B9 := fun (h0_ : b 13 = true) (h1_ : b 14 = false) => (show w2.heap[g9]? = some (.cells zeroC 30 (0, 0)) ∧ w11.drew.heap.size ≤ g9 from ⟨blk_below (Q_B9 h0_ h1_).1 hB_, (Q_B9 h0_ h1_).2⟩)
      refine hK.out _ _ ⟨v3, v5, v7, v8, ncx_, g9, (.tuple #[.agg ncx_, .int .i64 G.2]), m10_, m11_, m13_, (by rw [ha.out]; exact putSel_upk 5 hb_ rfl rfl rfl), HB.out.trans (hB_.mono HB.out.size), fun _ h1_ => absurd ((hon 5 (by kernel_rfl)).symm.trans h1_) (by decide), fun _ h1_ => absurd ((hon 8 (by kernel_rfl)).symm.trans h1_) (by decide), fun _ _ h2_ => absurd ((hon 5 (by kernel_rfl)).symm.trans h2_) (by decide), fun _ h1_ => absurd ((hon 8 (by kernel_rfl)).symm.trans h1_) (by decide), fun _ h1_ => absurd ((up_self b 9).symm.trans h1_) (by decide), Nat.lt_of_lt_of_le G9.out hB_.size, fun _ => (fun W' hk_ => nm_ W' (hk_.mono fun j hj => by rw [hj]; exact G9.out)), z_B9, fun h0_ => absurd ((hoff 14 (by kernel_rfl)).symm.trans h0_) (by decide), fun _ => rfl, fun h0_ => absurd ((hoff 10 (by kernel_rfl)).symm.trans h0_) (by decide), fun h0_ => absurd ((hoff 11 (by kernel_rfl)).symm.trans h0_) (by decide), Q_X13_⟩
    refine steps_cons ?_ ?_
    · rintro b a w' ⟨v3, v5, v7, v8, cx9, g9, m9_, m10_, m11_, m13_, ha, Q_HB, Q_R3, Q_R7, Q_D37, Q_R5, Q_R8, Q_G9, Q_M9, Q_B9, Q_C9, Q_X9_, Q_X10_, Q_X11_, Q_X13_⟩ hb_ hon hoff
      refine ⟨_, rfl, fun K hK => ?_⟩
      have e72 : a.tmps[72]? = some (m9_) := by rw [ha]; exact putSel_on (e := (9, 72, m9_)) 5 rfl rfl (hon 9 (by kernel_rfl)) rfl
      rw [Q_X9_ (hon 9 (by kernel_rfl))] at e72
      replace ha := Aside0.mk ha
      have HB := Aside0.mk Q_HB
      have G9 := Aside0.mk Q_G9
      have M9 := Aside0.mk (Q_M9 (hon 9 (by kernel_rfl)))
      refine value_ (w1 := w') (v := .tuple #[.agg cx9, .int .i64 G.2]) (by rfl) rfl ?_ ?_
      · go_simp
        (try simp only [i64_w])
        try rfl
      refine hK.out _ _ ⟨v3, v5, v7, v8, cx9, g9, m9_, (.tuple #[.agg cx9, .int .i64 G.2]), m11_, m13_, (by rw [ha.out]; exact putSel_upk 6 hb_ rfl rfl rfl), Q_HB, fun _ h1_ => absurd ((hon 5 (by kernel_rfl)).symm.trans h1_) (by decide), fun _ h1_ => absurd ((hon 8 (by kernel_rfl)).symm.trans h1_) (by decide), fun _ _ h2_ => absurd ((hon 5 (by kernel_rfl)).symm.trans h2_) (by decide), fun _ h1_ => absurd ((hon 8 (by kernel_rfl)).symm.trans h1_) (by decide), fun _ h1_ => absurd ((hon 9 (by kernel_rfl)).symm.trans h1_) (by decide), Q_G9, Q_M9, Q_B9, fun h0_ => absurd ((hoff 14 (by kernel_rfl)).symm.trans h0_) (by decide), Q_X9_, fun _ => rfl, fun h0_ => absurd ((hoff 11 (by kernel_rfl)).symm.trans h0_) (by decide), Q_X13_⟩
    refine steps_cons ?_ ?_
    · rintro b a w' ⟨v3, v5, v7, v8, cx9, g9, m9_, m10_, m11_, m13_, ha, Q_HB, Q_R3, Q_R7, Q_D37, Q_R5, Q_R8, Q_G9, Q_M9, Q_B9, Q_C9, Q_X9_, Q_X10_, Q_X11_, Q_X13_⟩ hb_ hon hoff
      refine ⟨_, rfl, fun K hK => ?_⟩
      have e62 : a.tmps[62]? = some (m10_) := by rw [ha]; exact putSel_on (e := (10, 62, m10_)) 6 rfl rfl (hon 10 (by kernel_rfl)) rfl
      rw [Q_X10_ (hon 10 (by kernel_rfl))] at e62
      replace ha := Aside0.mk ha
      have HB := Aside0.mk Q_HB
      have G9 := Aside0.mk Q_G9
      have M9 := Aside0.mk (Q_M9 (hon 9 (by kernel_rfl)))
      refine value_ (w1 := w') (v := .agg cx9) (by rfl) rfl ?_ ?_
      · go_simp
        (try simp only [i64_w])
        try rfl
      refine hK.out _ _ ⟨v3, v5, v7, v8, cx9, g9, m9_, m10_, (.agg cx9), m13_, (by rw [ha.out]; exact putSel_upk 7 hb_ rfl rfl rfl), Q_HB, fun _ h1_ => absurd ((hon 5 (by kernel_rfl)).symm.trans h1_) (by decide), fun _ h1_ => absurd ((hon 8 (by kernel_rfl)).symm.trans h1_) (by decide), fun _ _ h2_ => absurd ((hon 5 (by kernel_rfl)).symm.trans h2_) (by decide), fun _ h1_ => absurd ((hon 8 (by kernel_rfl)).symm.trans h1_) (by decide), fun _ h1_ => absurd ((hon 9 (by kernel_rfl)).symm.trans h1_) (by decide), Q_G9, Q_M9, Q_B9, fun h0_ => absurd ((hoff 14 (by kernel_rfl)).symm.trans h0_) (by decide), Q_X9_, Q_X10_, fun _ => rfl, Q_X13_⟩
    refine steps_cons ?_ ?_
    · rintro b a w' ⟨v3, v5, v7, v8, cx9, g9, m9_, m10_, m11_, m13_, ha, Q_HB, Q_R3, Q_R7, Q_D37, Q_R5, Q_R8, Q_G9, Q_M9, Q_B9, Q_C9, Q_X9_, Q_X10_, Q_X11_, Q_X13_⟩ hb_ hon hoff
      refine ⟨_, rfl, fun K hK => ?_⟩
      have e62 : a.tmps[62]? = some (m10_) := by rw [ha]; exact putSel_on (e := (10, 62, m10_)) 6 rfl rfl (hon 10 (by kernel_rfl)) rfl
      rw [Q_X10_ (hon 10 (by kernel_rfl))] at e62
      replace ha := Aside0.mk ha
      have HB := Aside0.mk Q_HB
      have G9 := Aside0.mk Q_G9
      have M9 := Aside0.mk (Q_M9 (hon 9 (by kernel_rfl)))
      refine value_ (w1 := w') (v := .int .i64 G.2) (by rfl) rfl ?_ ?_
      · go_simp
        (try simp only [i64_w])
        try rfl
      refine hK.out _ _ ⟨v3, v5, v7, v8, cx9, g9, m9_, m10_, m11_, m13_, (by rw [ha.out]; exact putSel_upk 8 hb_ rfl rfl rfl), Q_HB, fun _ h1_ => absurd ((hon 5 (by kernel_rfl)).symm.trans h1_) (by decide), fun _ h1_ => absurd ((hon 8 (by kernel_rfl)).symm.trans h1_) (by decide), fun _ _ h2_ => absurd ((hon 5 (by kernel_rfl)).symm.trans h2_) (by decide), fun _ h1_ => absurd ((hon 8 (by kernel_rfl)).symm.trans h1_) (by decide), fun _ h1_ => absurd ((hon 9 (by kernel_rfl)).symm.trans h1_) (by decide), Q_G9, Q_M9, Q_B9, Q_C9, Q_X9_, Q_X10_, Q_X11_, Q_X13_⟩
    refine steps_cons ?_ ?_
    · rintro b a w' ⟨v3, v5, v7, v8, cx9, g9, m9_, m10_, m11_, m13_, ha, Q_HB, Q_R3, Q_R7, Q_D37, Q_R5, Q_R8, Q_G9, Q_M9, Q_B9, Q_C9, Q_X9_, Q_X10_, Q_X11_, Q_X13_⟩ hb_ hon hoff
      refine ⟨_, rfl, fun K hK => ?_⟩
      replace ha := Aside0.mk ha
      have HB := Aside0.mk Q_HB
      have G9 := Aside0.mk Q_G9
      refine alloc_ (by rfl) rfl ?_
      have z_R3 := fun (h0_ : b 3 = true) (h1_ : b 5 = false) => (show Kd.R (Kd.int .u8) 5 (w'.alloc (.cells zeroC 30)) w11.drew.heap.size (fun _ => True) v3 (([] : List Int)) from Kd.R_alloc (Q_R3 h0_ h1_) _)
      have z_R7 := fun (h0_ : b 7 = true) (h1_ : b 8 = false) => (show Kd.R (Kd.int .u8) 5 (w'.alloc (.cells zeroC 30)) w11.drew.heap.size (fun _ => True) v7 ([c]) from Kd.R_alloc (Q_R7 h0_ h1_) _)
      have z_R5 := fun (h0_ : b 5 = true) (h1_ : b 8 = false) => (show Kd.R (Kd.int .u8) 5 (w'.alloc (.cells zeroC 30)) w11.drew.heap.size (fun _ => True) v5 (R.1) from Kd.R_alloc (Q_R5 h0_ h1_) _)
      have z_R8 := fun (h0_ : b 8 = true) (h1_ : b 9 = false) => (show Kd.R (Kd.int .u8) 5 (w'.alloc (.cells zeroC 30)) w11.drew.heap.size (fun _ => True) v8 (R.1 ++ [c]) from Kd.R_alloc (Q_R8 h0_ h1_) _)
      have z_M9 := fun (h0_ : b 9 = true) => (show ∀ W', Kept (w'.alloc (.cells zeroC 30)) W' (fun k => k = w'.heap.size) → IsMsg W' cx9 G.1 from fun W' hk_ => Q_M9 h0_ W' (kept_alloc hk_))
      refine hK.out _ _ ⟨v3, v5, v7, v8, cx9, w'.heap.size, m9_, m10_, m11_, (.pointer (some ⟨w'.heap.size, 0, none⟩)), (by rw [ha.out]; exact putSel_upk 9 hb_ rfl rfl rfl), below_alloc' HB.out _, z_R3, z_R7, Q_D37, z_R5, z_R8, size_alloc _ _, z_M9, fun _ _ => ⟨blk_new _ _, HB.out.size⟩, fun h0_ => absurd ((hoff 14 (by kernel_rfl)).symm.trans h0_) (by decide), Q_X9_, Q_X10_, Q_X11_, fun _ => rfl⟩
    refine steps_cons ?_ ?_
    · rintro b a w' ⟨v3, v5, v7, v8, cx9, g9, m9_, m10_, m11_, m13_, ha, Q_HB, Q_R3, Q_R7, Q_D37, Q_R5, Q_R8, Q_G9, Q_M9, Q_B9, Q_C9, Q_X9_, Q_X10_, Q_X11_, Q_X13_⟩ hb_ hon hoff
      refine ⟨_, rfl, fun K hK => ?_⟩
      have e16 : a.tmps[16]? = some (m13_) := by rw [ha]; exact putSel_on (e := (13, 16, m13_)) 9 rfl rfl (hon 13 (by kernel_rfl)) rfl
      rw [Q_X13_ (hon 13 (by kernel_rfl))] at e16
      have e73 : a.tmps[73]? = some (m11_) := by rw [ha]; exact putSel_on (e := (11, 73, m11_)) 7 rfl rfl (hon 11 (by kernel_rfl)) rfl
      rw [Q_X11_ (hon 11 (by kernel_rfl))] at e73
      replace ha := Aside0.mk ha
      have HB := Aside0.mk Q_HB
      have G9 := Aside0.mk Q_G9
      have M9 := Aside0.mk (Q_M9 (hon 9 (by kernel_rfl)))
      have B9 := Aside0.mk (Q_B9 (hon 13 (by kernel_rfl)) hb_)
      refine putm_ (x := .tmp 16) (y := .tmp 73) (by rfl) rfl rfl (by simp only [Act.eval, Array.getD_eq_getD_getElem?, Option.getD_some, e16]) (by simp only [Act.eval, Array.getD_eq_getD_getElem?, Option.getD_some, e73]) B9.out.1 rfl (M9.out _ (Kept.refl _ _)) ?_
      intro w2 hk_ hu_
      refine hK.out _ _ ⟨v3, v5, v7, v8, cx9, g9, m9_, m10_, m11_, m13_, (by rw [ha.out]; exact putSel_none (v := undef) rfl), HB.out.trans (hu_.below B9.out.2 HB.out.size), fun _ h1_ => absurd ((hon 5 (by kernel_rfl)).symm.trans h1_) (by decide), fun _ h1_ => absurd ((hon 8 (by kernel_rfl)).symm.trans h1_) (by decide), fun _ _ h2_ => absurd ((hon 5 (by kernel_rfl)).symm.trans h2_) (by decide), fun _ h1_ => absurd ((hon 8 (by kernel_rfl)).symm.trans h1_) (by decide), fun _ h1_ => absurd ((hon 9 (by kernel_rfl)).symm.trans h1_) (by decide), Nat.lt_of_lt_of_le G9.out (hu_.below B9.out.2 HB.out.size).size, fun _ => (fun W' hk2_ => M9.out W' (hu_.kept.then_ hk2_ (fun j hj => .inl hj))), fun _ h1_ => absurd ((up_self b 14).symm.trans h1_) (by decide), fun _ => hk_, Q_X9_, Q_X10_, Q_X11_, Q_X13_⟩
    refine steps_cons ?_ ?_
    · rintro b a w' ⟨v3, v5, v7, v8, cx9, g9, m9_, m10_, m11_, m13_, ha, Q_HB, Q_R3, Q_R7, Q_D37, Q_R5, Q_R8, Q_G9, Q_M9, Q_B9, Q_C9, Q_X9_, Q_X10_, Q_X11_, Q_X13_⟩ hb_ hon hoff
      refine ⟨_, rfl, fun K hK => ?_⟩
      have e74 : a.tmps[74]? = some (.int .i64 G.2) := by rw [ha]; exact putSel_on (e := (12, 74, .int .i64 G.2)) 8 rfl rfl (hon 12 (by kernel_rfl)) rfl
      replace ha := Aside0.mk ha
      have HB := Aside0.mk Q_HB
      have G9 := Aside0.mk Q_G9
      have M9 := Aside0.mk (Q_M9 (hon 9 (by kernel_rfl)))
      have C9 := Aside0.mk (Q_C9 (hon 14 (by kernel_rfl)))
      refine value_ (w1 := w') (v := .int .i64 G.2) (by rfl) rfl ?_ ?_
      · go_simp
        (try simp only [i64_w])
        try rfl
      refine hK.out _ _ ⟨v3, v5, v7, v8, cx9, g9, m9_, m10_, m11_, m13_, (by rw [ha.out]; exact putSel_upk 10 hb_ rfl rfl rfl), Q_HB, fun _ h1_ => absurd ((hon 5 (by kernel_rfl)).symm.trans h1_) (by decide), fun _ h1_ => absurd ((hon 8 (by kernel_rfl)).symm.trans h1_) (by decide), fun _ _ h2_ => absurd ((hon 5 (by kernel_rfl)).symm.trans h2_) (by decide), fun _ h1_ => absurd ((hon 8 (by kernel_rfl)).symm.trans h1_) (by decide), fun _ h1_ => absurd ((hon 9 (by kernel_rfl)).symm.trans h1_) (by decide), Q_G9, Q_M9, fun _ h1_ => absurd ((hon 14 (by kernel_rfl)).symm.trans h1_) (by decide), Q_C9, Q_X9_, Q_X10_, Q_X11_, Q_X13_⟩
    exact steps_nil
  rintro b a w12 hall ⟨v3, v5, v7, v8, cx9, g9, m9_, m10_, m11_, m13_, ha, Q_HB, Q_R3, Q_R7, Q_D37, Q_R5, Q_R8, Q_G9, Q_M9, Q_B9, Q_C9, Q_X9_, Q_X10_, Q_X11_, Q_X13_⟩
  clear G9 HB
  have hb2_ := hall 2 (by kernel_rfl)
  have hb3_ := hall 3 (by kernel_rfl)
  have hb5_ := hall 5 (by kernel_rfl)
  have hb7_ := hall 7 (by kernel_rfl)
  have hb8_ := hall 8 (by kernel_rfl)
  have hb9_ := hall 9 (by kernel_rfl)
  have hb10_ := hall 10 (by kernel_rfl)
  have hb11_ := hall 11 (by kernel_rfl)
  have hb12_ := hall 12 (by kernel_rfl)
  have hb13_ := hall 13 (by kernel_rfl)
  have hb14_ := hall 14 (by kernel_rfl)
  have hb15_ := hall 15 (by kernel_rfl)
  subst ha
  obtain rfl := Q_X9_ hb9_
  obtain rfl := Q_X10_ hb10_
  obtain rfl := Q_X11_ hb11_
  obtain rfl := Q_X13_ hb13_
  simp only [putSel, hb2_, hb3_, hb5_, hb7_, hb8_, hb9_, hb10_, hb11_, hb12_, hb13_, hb14_, hb15_, if_true, Act.put, List.setIfInBounds_toArray, List.set_cons_zero, List.set_cons_succ]
  have HB := Aside0.mk Q_HB
  clear Q_HB
  clear Q_R3
  clear Q_R7
  clear Q_D37
  clear Q_R5
  clear Q_R8
  have G9 := Aside0.mk Q_G9
  clear Q_G9
  have M9 := Aside0.mk (Q_M9 hb9_)
  clear Q_M9
  clear Q_B9
  have C9 := Aside0.mk (Q_C9 hb14_)
  clear Q_C9
  clear hall hb2_ hb3_ hb5_ hb7_ hb8_ hb9_ hb10_ hb11_ hb12_ hb13_ hb14_ hb15_
  have n0_ := Aside0.mk ((((H.out.dr).on HB.out).add (sta_blk _ _) (C9.out)).add (sta_msg _ _) (M9.out _ (Kept.refl _ _)))
  clear H HB kcd RBD G9 M9 C9
  have H := n0_
  clear n0_
  rcases HS2.out with hs2 | ⟨hs2, hs3⟩
  · have es2 : (S.2 != 0) = true := by simpa using hs2
    have es1 : (S.2 == 0) = false := by simpa using hs2
    clear hs2
    rcases HG2.out with hg2 | ⟨hg2, hg3⟩
    · have eg2 : (G.2 != 0) = true := by simpa using hg2
      have eg1 : (G.2 == 0) = false := by simpa using hg2
      clear hg2
      go_wp2
      go_ret
      exact ⟨by first | rfl | (simp; done), H.out.b⟩
    · have eg2 : (G.2 != 0) = false := by rw [hg2]; rfl
      have eg1 : (G.2 == 0) = true := by rw [hg2]; rfl
      have HG3 := Aside0.mk hg3
      clear hg3
      clear hg2
      go_wp2_with (first | ((with_reducible refine gate_dst (N := 90) rfl ?_); (try (refine gate_guard (by rfl) ?_; dsimp only)); refine ev_get (x := .tmp 16) rfl rfl rfl H.out.f.1.2 H.out.f.2 ?_) | ((with_reducible refine gate_dst (N := 91) rfl ?_); (try (refine gate_guard (by rfl) ?_; dsimp only)); refine ev_get (x := .tmp 5) rfl rfl rfl H.out.f.1.1.1.1.1.1.2 H.out.f.1.1.1.1.1.2 ?_) | (go_at_call 14; (with_reducible refine (same_not H.out.f.2 H.out.f.1.1.1.1.1.2 HG3.out).mono ?_); rintro en ws ⟨rfl, hb_⟩; have n0_ := Aside0.mk (H.out.on hb_); clear H; have H := n0_; clear n0_; clear hb_))
      go_ret
      exact ⟨by first | rfl | (simp; done), H.out.b⟩
  · have es2 : (S.2 != 0) = false := by rw [hs2]; rfl
    have es1 : (S.2 == 0) = true := by rw [hs2]; rfl
    have HS3 := Aside0.mk hs3
    clear hs3
    clear hs2
    rcases HG2.out with hg2 | ⟨hg2, hg3⟩
    · have eg2 : (G.2 != 0) = true := by simpa using hg2
      have eg1 : (G.2 == 0) = false := by simpa using hg2
      clear hg2
      go_wp2_with (first | ((with_reducible refine gate_dst (N := 80) rfl ?_); (try (refine gate_guard (by rfl) ?_; dsimp only)); refine ev_get (x := .tmp 14) rfl rfl rfl H.out.f.1.1.1.2 H.out.f.1.1.2 ?_) | ((with_reducible refine gate_dst (N := 81) rfl ?_); (try (refine gate_guard (by rfl) ?_; dsimp only)); refine ev_get (x := .tmp 5) rfl rfl rfl H.out.f.1.1.1.1.1.1.2 H.out.f.1.1.1.1.1.2 ?_) | (go_at_call 14; (with_reducible refine (same_not H.out.f.1.1.2 H.out.f.1.1.1.1.1.2 HS3.out).mono ?_); rintro en ws ⟨rfl, hb_⟩; have n0_ := Aside0.mk (H.out.on hb_); clear H; have H := n0_; clear n0_; clear hb_))
      go_ret
      exact ⟨by first | rfl | (simp; done), H.out.b⟩
    · have eg2 : (G.2 != 0) = false := by rw [hg2]; rfl
      have eg1 : (G.2 == 0) = true := by rw [hg2]; rfl
      have HG3 := Aside0.mk hg3
      clear hg3
      clear hg2
      go_wp2_with (first | ((with_reducible refine gate_dst (N := 80) rfl ?_); (try (refine gate_guard (by rfl) ?_; dsimp only)); refine ev_get (x := .tmp 14) rfl rfl rfl H.out.f.1.1.1.2 H.out.f.1.1.2 ?_) | ((with_reducible refine gate_dst (N := 81) rfl ?_); (try (refine gate_guard (by rfl) ?_; dsimp only)); refine ev_get (x := .tmp 5) rfl rfl rfl H.out.f.1.1.1.1.1.1.2 H.out.f.1.1.1.1.1.2 ?_) | (go_at_call 14; (with_reducible refine (same_not H.out.f.1.1.2 H.out.f.1.1.1.1.1.2 HS3.out).mono ?_); rintro en ws ⟨rfl, hb_⟩; have n0_ := Aside0.mk (H.out.on hb_); clear H; have H := n0_; clear n0_; clear hb_) | ((with_reducible refine gate_dst (N := 90) rfl ?_); (try (refine gate_guard (by rfl) ?_; dsimp only)); refine ev_get (x := .tmp 16) rfl rfl rfl H.out.f.1.2 H.out.f.2 ?_) | ((with_reducible refine gate_dst (N := 91) rfl ?_); (try (refine gate_guard (by rfl) ?_; dsimp only)); refine ev_get (x := .tmp 5) rfl rfl rfl H.out.f.1.1.1.1.1.1.2 H.out.f.1.1.1.1.1.2 ?_) | (go_at_call 14; (with_reducible refine (same_not H.out.f.2 H.out.f.1.1.1.1.1.2 HG3.out).mono ?_); rintro en ws ⟨rfl, hb_⟩; have n0_ := Aside0.mk (H.out.on hb_); clear H; have H := n0_; clear n0_; clear hb_))
      go_ret
      exact ⟨by first | rfl | (simp; done), H.out.b⟩
end Go.Proofs.Ytalaochocmcbcaa.Com
end
section
namespace Go.Proofs.Ytalaochocmcbcaa.Open
open Go.RowKit Go.ChangeShapes Go.WideShapes Go.Deep Go.Proofs.YtalaochocmcbcaaW.PrintWords
def Opens {H : Type} (enc : TypeId × Value → H) (P : Program) (w : World) (base : Nat) (held : Bool) (t : TypeId) {α : Type} (d : Kd α) (good : α → Prop) : Prop :=
  ∀ fuel cs x, DataW.trod enc P w base (fun _ => true) held fuel t cs = some x → ∃ y, d.K w y cs ∧ good y
section
variable {H : Type} {enc : TypeId × Value → H} {P : Program} {w : World} {base : Nat} {held : Bool} {α : Type}
theorem opens_int {t : TypeId} {k : IntKind} (ht : P.underlying t = some (.int k)) : Opens enc P w base held t (Kd.int k) (fun n => (Lit.int k n).wf = true) := by
  intro fuel cs x h
  obtain ⟨n, rfl, _, hw⟩ := DataW.trod_int ht h
  exact ⟨n, rfl, hw⟩
theorem opens_bool {t : TypeId} (ht : P.underlying t = some .bool) : Opens enc P w base held t Kd.bool (fun _ => True) := by
  intro fuel cs x h
  obtain ⟨b, rfl, _⟩ := DataW.trod_bool ht h
  exact ⟨b, rfl, trivial⟩
theorem opens_slice {t e : TypeId} {d : Kd α} {g : α → Prop} (ht : P.underlying t = some (.slice e)) (hc : P.cellsOf e = d.sz) (h : Opens enc P w base held e d g) :
    Opens enc P w base held t (Kd.slice e d) (fun l => l.length ≤ maxLen ∧ ∀ x ∈ l, g x) := by
  intro fuel cs x hx
  rcases open_slice ht hx with ⟨rfl, _⟩ | ⟨a, len, cap, m, n, D, Pl, rfl, _, hl, hm, hmm, _, hel⟩
  · exact ⟨[], ⟨none, 0, rfl, Nat.le_refl _, Kd.C_nil d w⟩, Nat.zero_le _, fun x hx => by cases hx⟩
  · simp only [if_true] at hmm
    subst hmm
    have hone : ∀ i : Fin len, ∃ y, (∃ c, c.length = d.sz ∧ d.K w y c ∧ ∀ j u, c[j]? = some u → w.cell? (a.add (i.val * d.sz + j)) = some u) ∧ g y := by
      intro i
      obtain ⟨cs', h1, h2⟩ := hel i.val (Nat.lt_of_lt_of_le i.isLt hl)
      obtain ⟨y, hk, hg⟩ := h n cs' _ h2
      rw [hc] at h1
      obtain ⟨_, h4, h5⟩ := World.cells?_some h1
      refine ⟨y, ⟨cs', h4, hk, fun j u hu => ?_⟩, hg⟩
      have hj : j < d.sz := by rw [← h4]; exact (List.getElem?_eq_some_iff.1 hu).1
      have := h5 j hj
      rw [hu] at this
      rw [← Addr.add_add]
      exact this
    let ys := List.ofFn fun i => Classical.choose (hone i)
    have hy : ys.length = len := by simp [ys]
    refine ⟨ys, ⟨some a, m, by rw [hy], by rw [hy]; exact hl, ?_⟩, by rw [hy]; exact Nat.le_trans hl hm, ?_⟩
    · refine ⟨rfl, by rw [hy]; exact Nat.le_trans hl hm, fun _ => ⟨a, rfl, fun j p hp => ?_⟩⟩
      have hj : j < len := by rw [← hy]; exact (List.getElem?_eq_some_iff.1 hp).1
      have : p = Classical.choose (hone ⟨j, hj⟩) := by
        simp only [ys, List.getElem?_ofFn, hj, dite_true] at hp
        exact (Option.some.inj hp).symm
      subst this
      exact (Classical.choose_spec (hone ⟨j, hj⟩)).1
    · intro x hx
      simp only [ys, List.mem_ofFn] at hx
      obtain ⟨i, rfl⟩ := hx
      exact (Classical.choose_spec (hone i)).2
theorem opens_at {fs : Array Field} {cs : List Value} {xs : List (DataW H × List MemPlace)} {n : Nat} {d : Kd α} {g : α → Prop}
    (hf : ∀ (i : Nat) (f : Field), fs[i]? = some f → DataW.trod enc P w base (fun _ => true) held n f.type ((cs.drop f.offset).take (P.cellsOf f.type)) = xs[i]?) (hlen : xs.length = fs.size)
    (hone : oneCellFields P fs = true) (i : Nat) (f : Field) (hi : fs[i]? = some f) (c : Value) (hc : cs[i]? = some c) (H1 : Opens enc P w base held f.type d g) : ∃ y, d.K w y [c] ∧ g y := by
  obtain ⟨o1, k1⟩ := hone_of hone i f hi
  have h := hf i f hi
  have hlt : i < xs.length := by rw [hlen]; exact (Array.getElem?_eq_some_iff.1 hi).1
  rw [o1, k1, List.getElem?_eq_getElem hlt] at h
  have hci := (List.getElem?_eq_some_iff.1 hc).1
  have hs : (cs.drop i).take 1 = [c] := by
    rw [List.drop_eq_getElem_cons hci, List.take_succ_cons, List.take_zero, (List.getElem?_eq_some_iff.1 hc).2]
  rw [hs] at h
  exact H1 n [c] _ h
theorem open_slice_arg {t e : TypeId} {d : Kd α} {g : α → Prop} {a : Option Addr} {len cap : Nat} {x : DataW H} {p : List MemPlace} (h : DataW.Trod enc P w base (fun _ => true) held t (.slice a len cap) x p)
    (H1 : Opens enc P w base held t (Kd.slice e d) (fun l => l.length ≤ maxLen ∧ ∀ x ∈ l, g x)) : ∃ l, len = l.length ∧ d.C w a l.length l ∧ l.length ≤ cap ∧ l.length ≤ maxLen ∧ ∀ x ∈ l, g x := by
  obtain ⟨fuel, hf⟩ := h
  obtain ⟨l, ⟨A, c, he, hl, hC⟩, h1, h2⟩ := H1 fuel _ _ hf
  simp [Value.cells] at he
  obtain ⟨rfl, rfl, rfl⟩ := he
  exact ⟨l, rfl, hC, hl, h1, h2⟩
end
end Go.Proofs.Ytalaochocmcbcaa.Open
end
