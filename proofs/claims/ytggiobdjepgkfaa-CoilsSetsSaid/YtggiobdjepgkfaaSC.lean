/- What the laws of this chapter rest on, part 3: what the functions that they reach answer, each shown once. Conditions: what each theorem states. (Merged by a program of this session, wip/tools/merge.py, out of its own texts and of the words that the kit's print wrote for this seat, cut to those that are used.) -/
import Derived.Maps.OwnOps
import Derived.Maps.Views
import Derived.Test.YtggiobdjepgkfaaSB
set_option linter.unusedVariables false
set_option linter.unusedSimpArgs false
set_option maxHeartbeats 16000000
set_option maxRecDepth 100000
section
namespace Go.Proofs.Ytggiobdjepgkfaa
open Go.RowKit Go.Proofs.YtggiobdjepgkfaaW.PrintWords Go.Proofs.YtggiobdjepgkfaaW.PrintLast Go.Proofs.YtggiobdjepgkfaaW.PrintMore
section
variable {P : Program} {ops : Array Oper} {Q : Exit → Act → World → Prop} {md : Region.Mode} {S : World → Prop} {ds : List Nat} {T : Bool × List (List Nat × List Nat)} {B : List Nat} {oi : Oper} {v : Value} {fuel : Nat} {l : Array Bool} {a a' : Act} {w : World}
theorem pu_ (i : Nat) (N : Option Tmp) (l' : Array Bool) (hT : Aside0 (rtab md ops = T)) (hc : anyT T l.toList l'.toList i = true) (hi : ops[i]? = some oi) (hN : oi.dst = N) (hQ : ∀ c a w, Q (.panic c) (a.put oi.dst v) w → Q (.panic c) a w) (hg : Region.wanted oi (yielded ops a.tmps) = true) (hy : ∀ w, (execOp a.eval oi).run P w = .ok (.value v) w) (ha : a.put N v = a') (h : wpAnyLast P md ops Q S ds fuel l' a' w) : wpAnyLast P md ops Q S ds (fuel + 1) l a w :=
  pure_ l' hi hN (any_of hT.out hc) hQ (Or.inl ⟨hg, hy⟩) ha h
theorem po_ (i : Nat) (N : Option Tmp) (l' : Array Bool) (hT : Aside0 (rtab md ops = T)) (hc : anyT T l.toList l'.toList i = true) (hi : ops[i]? = some oi) (hN : oi.dst = N) (hQ : ∀ c a w, Q (.panic c) (a.put oi.dst undef) w → Q (.panic c) a w) (hg : Region.wanted oi (yielded ops a.tmps) = false) (ha : a.put N undef = a') (h : wpAnyLast P md ops Q S ds fuel l' a' w) : wpAnyLast P md ops Q S ds (fuel + 1) l a w :=
  pure_ l' hi hN (any_of hT.out hc) hQ (Or.inr ⟨hg, rfl⟩) ha h
theorem tk_ (i : Nat) (N : Option Tmp) (l' : Array Bool) (hT : Aside0 (rtab md ops = T)) (hW : Aside0 (waitsOk T.2 B = true)) (hS : S w) (hc : takeW T B ds l.toList l'.toList i = true) (hi : ops[i]? = some oi) (hN : oi.dst = N) (hQ : ∀ c a w, Q (.panic c) (a.put oi.dst v) w → Q (.panic c) a w) (hg : Region.wanted oi (yielded ops a.tmps) = true) (hy : ∀ w, S w → (execOp a.eval oi).run P w = .ok (.value v) w) (ha : a.put N v = a') (h : wpAnyLast P md ops Q S ds fuel l' a' w) : wpAnyLast P md ops Q S ds (fuel + 1) l a w :=
  take_ l' hi hN (take_ofW hT.out hW.out hc) hQ (Or.inl ⟨hg, hy⟩) hS ha h
end
end Go.Proofs.Ytggiobdjepgkfaa
end
section
namespace Go.Proofs.Ytggiobdjepgkfaa.Coil
open Go.RowKit Go.Proofs.Ytggiobdjepgkfaa.P Go.Proofs.Ytggiobdjepgkfaa.E Go.Proofs.Ytggiobdjepgkfaa.Cur Go.Proofs.Ytggiobdjepgkfaa.Cu Go.Proofs.Ytggiobdjepgkfaa.Same Go.Proofs.Ytggiobdjepgkfaa.Bits Go.Proofs.YtggiobdjepgkfaaW.PrintWords Go.Proofs.YtggiobdjepgkfaaW.PrintLast Go.Proofs.YtggiobdjepgkfaaW.PrintMore
def withinB (a k : Int) : Bool := decide (0 < k) && decide (k ≤ 65536 - a)
def spanR (most : Int) (m : Msg) : (Cu → Cu × Msg) := Rd.bind Rd.word fun a => Rd.bind Rd.word fun k => Rd.bind (Rd.need (decide (1 ≤ k) && decide (k ≤ most)) 5) fun _ => Rd.bind (Rd.need (withinB a k) 7) fun _ => Rd.ret { m with addr := a, count := k }
def toldR (m : Msg) : (Cu → Cu × Msg) := Rd.bind Rd.byte fun n => Rd.bind (Rd.need (decide (1 ≤ n) && decide (n ≤ 250)) 5) fun _ => Rd.bind (Rd.bytes n) fun l => Rd.ret { m with data := l }
def setsR (m : Msg) : (Cu → Cu × Msg) := Rd.bind Rd.word fun a => Rd.bind Rd.word fun v => Rd.bind (Rd.need (v == 0 || v == 65280) 6) fun _ => Rd.ret { m with addr := a, value := v }
def manyK (m1 : Msg) : (Cu → Cu × Msg) := Rd.bind Rd.byte fun n => Rd.bind (Rd.need (n == (bytesN m1.count.toNat : Int)) 5) fun _ => Rd.bind (Rd.bytes n) fun l => Rd.bind (Rd.need (unpackR l m1.count).2 6) fun _ => Rd.ret { m1 with bits := (unpackR l m1.count).1 }
def manyR (m : Msg) : (Cu → Cu × Msg) := Rd.bind (spanR 1968 m) manyK
theorem within_c {a k : Int} (ha : 0 ≤ a ∧ a < 65536) (w : World) : Calls Try.prog 63 #[.int .u16 a, .int .i64 k] w fun en w' => en = .returned (.bool (withinB a k)) ∧ Below w.heap.size w w' := by
  have e : word_Within.f a k = some (withinB a k) := by
    unfold word_Within.f withinB
    rw [wrap64_id (x := a) (by omega) (by omega), wrap64_id (by omega) (by omega)]
    by_cases h : k > 0
    · rw [if_pos h, decide_eq_true (show (0 : Int) < k from h), Bool.true_and]
    · rw [if_neg h, decide_eq_false (show ¬ (0 : Int) < k from h), Bool.false_and]
  refine (word_Within.calls _ _ _ w e).mono ?_
  rintro e w' ⟨rfl, n, rfl⟩
  exact ⟨rfl, pw_below_drewN (Below.refl _ _) _⟩
def span.T1 : Bool × List (List Nat × List Nat) := (true, [([], []), ([0], [0]), ([], []), ([2], [2]), ([3], [3]), ([1, 0, 1, 2, 3, 4], [1]), ([5, 0, 1, 2, 3, 4], [5]), ([6, 4, 4, 0, 1, 2, 3, 4], [4, 6])])
def span.B1 : List Nat := [0, 1, 0, 4, 12, 31, 63, 127]
theorem span.tab1 : rtab .any (opsOf Try.f42 1) = span.T1 := by kernel_rfl
theorem span.bits1 : waitsOk span.T1.2 span.B1 = true := by kernel_rfl
def span.T2 : Bool × List (List Nat × List Nat) := (true, [([], []), ([0], [0]), ([], []), ([2], [2]), ([3], [3]), ([1, 0, 1, 2, 3, 4], [1]), ([5, 0, 1, 2, 3, 4], [5]), ([6, 4, 4, 0, 1, 2, 3, 4], [4, 6])])
def span.B2 : List Nat := [0, 1, 0, 4, 12, 31, 63, 127]
theorem span.tab2 : rtab .any (opsOf Try.f42 2) = span.T2 := by kernel_rfl
theorem span.bits2 : waitsOk span.T2.2 span.B2 = true := by kernel_rfl
def span.T3 : Bool × List (List Nat × List Nat) := (true, [([], []), ([0], [0]), ([], []), ([2], [2]), ([3], [3]), ([4], [4]), ([5], [5]), ([6], [6]), ([7], [7]), ([8], [8]), ([9, 8], [8, 9]), ([10, 8], [8, 10]), ([11, 8], [8, 11]), ([12, 8], [8, 12]), ([8], [8]), ([13, 14, 8], [8, 13, 14]), ([8, 15], [8, 15]), ([1, 16, 8], [1, 16])])
def span.B3 : List Nat := [0, 1, 0, 4, 12, 28, 60, 124, 252, 508, 1020, 2044, 4092, 8188, 508, 32764, 65532, 131071]
theorem span.tab3 : rtab .any (opsOf Try.f42 3) = span.T3 := by kernel_rfl
theorem span.bits3 : waitsOk span.T3.2 span.B3 = true := by kernel_rfl
def span.T4 : Bool × List (List Nat × List Nat) := (true, [([], []), ([0], [0]), ([], []), ([2], [2]), ([3], [3]), ([4], [4]), ([5], [5]), ([], []), ([7], [7]), ([8], [8]), ([9], [9]), ([10], [10]), ([11], [11]), ([6, 12], [6, 12]), ([1, 13, 13], [1, 13])])
def span.B4 : List Nat := [0, 1, 0, 4, 12, 28, 60, 0, 128, 384, 896, 1920, 3968, 8188, 16383]
theorem span.tab4 : rtab .any (opsOf Try.f42 4) = span.T4 := by kernel_rfl
theorem span.bits4 : waitsOk span.T4.2 span.B4 = true := by kernel_rfl
theorem span_1 {wb w0 w : World} {gr g gm : Nat} {c0 : Cu} {m : Msg} (h : PS.Sk wb w0 gr g gm w c0 m) {most : Int} (hmo : 0 ≤ most ∧ most < 65536) (hg : 1 ≤ c0.wordS.wordV) :
    Calls Try.prog 42 #[.agg #[.pointer (some ⟨g, 0, none⟩), .pointer (some ⟨gm, 0, none⟩)], .int .u16 most] w fun en w' => en = .returned (.tuple #[]) ∧ PS.Sk wb w0 gr g gm w' (spanR most m c0).1 (spanR most m c0).2 := by
  have HMO := Aside0.mk hmo
  clear hmo
  have hlt := PS.Sk.lt h
  have HKP := Aside0.mk h.kp
  have HP := Aside0.mk (PS.Sk.start (PS.St.below h.st (below_alloc (Below.refl _ _) (.cells #[.pointer (some ⟨g, 0, none⟩), .pointer (some ⟨gm, 0, none⟩)] 50))))
  have F0 := Aside0.mk (show (w.alloc (.cells #[.pointer (some ⟨g, 0, none⟩), .pointer (some ⟨gm, 0, none⟩)] 50)).cell? ⟨w.heap.size, 0, none⟩ = some (.pointer (some ⟨g, 0, none⟩)) from (blk_cell (blk_new w (.cells #[.pointer (some ⟨g, 0, none⟩), .pointer (some ⟨gm, 0, none⟩)] 50)) 0).trans rfl)
  have F1 := Aside0.mk (show (w.alloc (.cells #[.pointer (some ⟨g, 0, none⟩), .pointer (some ⟨gm, 0, none⟩)] 50)).cell? ⟨w.heap.size, 1, none⟩ = some (.pointer (some ⟨gm, 0, none⟩)) from (blk_cell (blk_new w (.cells #[.pointer (some ⟨g, 0, none⟩), .pointer (some ⟨gm, 0, none⟩)] 50)) 1).trans rfl)
  have hg1 : w.heap.size ≠ g := by omega
  have hg2 : w.heap.size ≠ gm := by omega
  clear hlt h
  go_enter Try.func42, Try.ntmps42
  go_upto_region 1 with (fail)
  have n0_ := Aside0.mk (PS.Sk.below HP.out (below_drew (Below.refl _ _)))
  clear HP
  have HP := n0_
  clear n0_
  obtain ⟨l0, h0⟩ := Cu.wordV_bd (PS.Sk.good HP.out)
  refine start_ (n := 8) (S := fun w' => w'.cell? ⟨w.heap.size, 0, none⟩ = some (.pointer (some ⟨g, 0, none⟩)) ∧ w'.cell? ⟨w.heap.size, 1, none⟩ = some (.pointer (some ⟨gm, 0, none⟩))) (ds := []) (bm 8 0) (by as_aux_lemma => kernel_rfl) rfl (by as_aux_lemma => kernel_rfl) ⟨(PS.Sk.cell HP.out F0.out hg1 hg2), (PS.Sk.cell HP.out F1.out hg1 hg2)⟩ (fun hHeld => ?_)
  refine with_tabW span.tab1 span.bits1 (fun HT_ HW_ => ?_)
  refine pu_ 0 (some 4) (bm 8 1) HT_ (by as_aux_lemma => kernel_rfl) rfl rfl (fun _ _ _ h => h) (by rfl) (by intro w'; go_simp; with_reducible rfl) (by go_simp; rfl) ?_
  refine pu_ 2 (some 6) (bm 8 5) HT_ (by as_aux_lemma => kernel_rfl) rfl rfl (fun _ _ _ h => h) (by rfl) (by intro w'; go_simp; with_reducible rfl) (by go_simp; rfl) ?_
  refine tk_ 1 (some 5) (bm 8 7) HT_ HW_ hHeld (by as_aux_lemma => kernel_rfl) rfl rfl (fun _ _ _ h => h) (by rfl) (by rintro w' ⟨s0, s1⟩; go_simp; with_reducible rfl) (by go_simp; rfl) ?_
  refine tk_ 3 (some 7) (bm 8 15) HT_ HW_ hHeld (by as_aux_lemma => kernel_rfl) rfl rfl (fun _ _ _ h => h) (by rfl) (by rintro w' ⟨s0, s1⟩; go_simp; with_reducible rfl) (by go_simp; rfl) ?_
  refine one_ (i := 4) (N := some 8) (bm 8 31) rfl rfl (one_of HT_.out (by as_aux_lemma => kernel_rfl)) (by as_aux_lemma => decide) (fun K hK => ?_)
  refine goes_ Try.func46 (by as_aux_lemma => kernel_rfl) rfl #[.pointer (some ⟨g, 0, none⟩)] (by rfl) rfl rfl (by simp only [List.map_toArray, List.map_cons, List.map_nil]; rfl) ?_
  with_reducible refine (PS.Sk.word HP.out).mono ?_
  rintro en x1 ⟨rfl, hp_⟩
  obtain ⟨c1, ec_⟩ : ∃ z, z = c0.wordS := ⟨_, rfl⟩
  rw [← ec_] at hp_
  have Ec1 := Aside0.mk ec_
  clear ec_
  obtain ⟨kaddr, faddr⟩ := PS.Sk.at_addr hp_
  have n0_ := Aside0.mk hp_
  clear HP hp_
  have HP := n0_
  clear n0_
  refine ⟨_, rfl, ?_⟩
  refine hK.out _ _ ⟨(PS.Sk.cell HP.out F0.out hg1 hg2), (PS.Sk.cell HP.out F1.out hg1 hg2)⟩ (fun hHeld => ?_)
  clear hK K
  refine norm_ (a' := ?_) ?_ ?_
  rotate_left
  · show Act.put _ (some 8) _ = _
    simp only [Act.put, List.setIfInBounds_toArray, List.set_cons_zero, List.set_cons_succ, i64_w, i32_w]
    rfl
  refine pu_ 5 (some 9) (bm 8 63) HT_ (by as_aux_lemma => kernel_rfl) rfl rfl (fun _ _ _ h => h) (by rfl) (by intro w'; go_simp; with_reducible rfl) (by go_simp; rfl) ?_
  refine pu_ 6 (some 10) (bm 8 127) HT_ (by as_aux_lemma => kernel_rfl) rfl rfl (fun _ _ _ h => h) (by rfl) (by intro w'; go_simp; with_reducible rfl) (by go_simp; rfl) ?_
  refine one_ (i := 7) (N := none) (bm 8 255) rfl rfl (one_of HT_.out (by as_aux_lemma => kernel_rfl)) (by as_aux_lemma => decide) (fun K hK => ?_)
  refine skip_ (w1 := ?_) (by rfl) rfl ?_ ?_
  rotate_left
  · go_simp
    rfl
  have hp_ := HP.out.put_addr ⟨l0, h0⟩
  have n0_ := Aside0.mk hp_
  clear HP hp_
  have HP := n0_
  clear n0_
  refine hK.out _ _ ⟨(PS.Sk.cell HP.out F0.out hg1 hg2), (PS.Sk.cell HP.out F1.out hg1 hg2)⟩ (fun hHeld => ?_)
  clear hK K
  refine done_ (done_of HT_.out (by as_aux_lemma => kernel_rfl)) ?_
  clear kaddr faddr
  go_upto_region 2 with (fail)
  have n0_ := Aside0.mk (PS.Sk.below HP.out (below_drew (Below.refl _ _)))
  clear HP
  have HP := n0_
  clear n0_
  obtain ⟨l1, h1⟩ := Cu.wordV_bd (PS.Sk.good HP.out)
  refine start_ (n := 8) (S := fun w' => w'.cell? ⟨w.heap.size, 0, none⟩ = some (.pointer (some ⟨g, 0, none⟩)) ∧ w'.cell? ⟨w.heap.size, 1, none⟩ = some (.pointer (some ⟨gm, 0, none⟩))) (ds := []) (bm 8 0) (by as_aux_lemma => kernel_rfl) rfl (by as_aux_lemma => kernel_rfl) ⟨(PS.Sk.cell HP.out F0.out hg1 hg2), (PS.Sk.cell HP.out F1.out hg1 hg2)⟩ (fun hHeld => ?_)
  refine with_tabW span.tab2 span.bits2 (fun HT_ HW_ => ?_)
  refine pu_ 0 (some 11) (bm 8 1) HT_ (by as_aux_lemma => kernel_rfl) rfl rfl (fun _ _ _ h => h) (by rfl) (by intro w'; go_simp; with_reducible rfl) (by go_simp; rfl) ?_
  refine pu_ 2 (some 13) (bm 8 5) HT_ (by as_aux_lemma => kernel_rfl) rfl rfl (fun _ _ _ h => h) (by rfl) (by intro w'; go_simp; with_reducible rfl) (by go_simp; rfl) ?_
  refine tk_ 1 (some 12) (bm 8 7) HT_ HW_ hHeld (by as_aux_lemma => kernel_rfl) rfl rfl (fun _ _ _ h => h) (by rfl) (by rintro w' ⟨s0, s1⟩; go_simp; with_reducible rfl) (by go_simp; rfl) ?_
  refine tk_ 3 (some 14) (bm 8 15) HT_ HW_ hHeld (by as_aux_lemma => kernel_rfl) rfl rfl (fun _ _ _ h => h) (by rfl) (by rintro w' ⟨s0, s1⟩; go_simp; with_reducible rfl) (by go_simp; rfl) ?_
  refine one_ (i := 4) (N := some 15) (bm 8 31) rfl rfl (one_of HT_.out (by as_aux_lemma => kernel_rfl)) (by as_aux_lemma => decide) (fun K hK => ?_)
  refine goes_ Try.func46 (by as_aux_lemma => kernel_rfl) rfl #[.pointer (some ⟨g, 0, none⟩)] (by rfl) rfl rfl (by simp only [List.map_toArray, List.map_cons, List.map_nil]; rfl) ?_
  with_reducible refine (PS.Sk.word HP.out).mono ?_
  rintro en x2 ⟨rfl, hp_⟩
  obtain ⟨c2, ec_⟩ : ∃ z, z = c1.wordS := ⟨_, rfl⟩
  rw [← ec_] at hp_
  have Ec2 := Aside0.mk ec_
  clear ec_
  obtain ⟨kcount, fcount⟩ := PS.Sk.at_count hp_
  have n0_ := Aside0.mk hp_
  clear HP hp_
  have HP := n0_
  clear n0_
  refine ⟨_, rfl, ?_⟩
  refine hK.out _ _ ⟨(PS.Sk.cell HP.out F0.out hg1 hg2), (PS.Sk.cell HP.out F1.out hg1 hg2)⟩ (fun hHeld => ?_)
  clear hK K
  refine norm_ (a' := ?_) ?_ ?_
  rotate_left
  · show Act.put _ (some 15) _ = _
    simp only [Act.put, List.setIfInBounds_toArray, List.set_cons_zero, List.set_cons_succ, i64_w, i32_w]
    rfl
  refine pu_ 5 (some 16) (bm 8 63) HT_ (by as_aux_lemma => kernel_rfl) rfl rfl (fun _ _ _ h => h) (by rfl) (by intro w'; go_simp; with_reducible rfl) (by go_simp; rfl) ?_
  refine pu_ 6 (some 17) (bm 8 127) HT_ (by as_aux_lemma => kernel_rfl) rfl rfl (fun _ _ _ h => h) (by rfl) (by intro w'; go_simp; with_reducible rfl) (by go_simp; rfl) ?_
  refine one_ (i := 7) (N := none) (bm 8 255) rfl rfl (one_of HT_.out (by as_aux_lemma => kernel_rfl)) (by as_aux_lemma => decide) (fun K hK => ?_)
  refine skip_ (w1 := ?_) (by rfl) rfl ?_ ?_
  rotate_left
  · go_simp
    rfl
  have hp_ := HP.out.put_count ⟨l1, h1⟩
  have n0_ := Aside0.mk hp_
  clear HP hp_
  have HP := n0_
  clear n0_
  refine hK.out _ _ ⟨(PS.Sk.cell HP.out F0.out hg1 hg2), (PS.Sk.cell HP.out F1.out hg1 hg2)⟩ (fun hHeld => ?_)
  clear hK K
  refine done_ (done_of HT_.out (by as_aux_lemma => kernel_rfl)) ?_
  clear kcount fcount
  go_upto_region 3 with (fail)
  have hge : decide (1 ≤ c1.wordV) = true := by rw [Ec1.out]; exact decide_eq_true hg
  have hge2 : decide (c1.wordV ≥ 1) = true := hge
  have EB := Aside0.mk (show (decide (1 ≤ c1.wordV) && decide (c1.wordV ≤ most)) = (decide (c1.wordV ≤ most)) from by rw [hge]; rfl)
  have n0_ := Aside0.mk (PS.Sk.below HP.out (below_drew (Below.refl _ _)))
  clear HP
  have HP := n0_
  clear n0_
  refine start_ (n := 18) (S := fun w' => w'.cell? ⟨w.heap.size, 0, none⟩ = some (.pointer (some ⟨g, 0, none⟩)) ∧ w'.cell? ⟨w.heap.size, 1, none⟩ = some (.pointer (some ⟨gm, 0, none⟩)) ∧ w'.cell? ⟨gm, 3, none⟩ = some (.int .u16 c1.wordV)) (ds := []) (bm 18 0) (by as_aux_lemma => kernel_rfl) rfl (by as_aux_lemma => kernel_rfl) ⟨(PS.Sk.cell HP.out F0.out hg1 hg2), (PS.Sk.cell HP.out F1.out hg1 hg2), (PS.Sk.at_count HP.out).1⟩ (fun hHeld => ?_)
  refine with_tabW span.tab3 span.bits3 (fun HT_ HW_ => ?_)
  refine pu_ 0 (some 18) (bm 18 1) HT_ (by as_aux_lemma => kernel_rfl) rfl rfl (fun _ _ _ h => h) (by rfl) (by intro w'; go_simp; with_reducible rfl) (by go_simp; rfl) ?_
  refine pu_ 2 (some 20) (bm 18 5) HT_ (by as_aux_lemma => kernel_rfl) rfl rfl (fun _ _ _ h => h) (by rfl) (by intro w'; go_simp; with_reducible rfl) (by go_simp; rfl) ?_
  refine tk_ 1 (some 19) (bm 18 7) HT_ HW_ hHeld (by as_aux_lemma => kernel_rfl) rfl rfl (fun _ _ _ h => h) (by rfl) (by rintro w' ⟨s0, s1, s2⟩; go_simp; with_reducible rfl) (by go_simp; rfl) ?_
  refine tk_ 3 (some 21) (bm 18 15) HT_ HW_ hHeld (by as_aux_lemma => kernel_rfl) rfl rfl (fun _ _ _ h => h) (by rfl) (by rintro w' ⟨s0, s1, s2⟩; go_simp; with_reducible rfl) (by go_simp; rfl) ?_
  refine pu_ 4 (some 22) (bm 18 31) HT_ (by as_aux_lemma => kernel_rfl) rfl rfl (fun _ _ _ h => h) (by rfl) (by intro w'; go_simp; with_reducible rfl) (by go_simp; rfl) ?_
  refine pu_ 5 (some 23) (bm 18 63) HT_ (by as_aux_lemma => kernel_rfl) rfl rfl (fun _ _ _ h => h) (by rfl) (by intro w'; go_simp; with_reducible rfl) (by go_simp; rfl) ?_
  refine tk_ 6 (some 24) (bm 18 127) HT_ HW_ hHeld (by as_aux_lemma => kernel_rfl) rfl rfl (fun _ _ _ h => h) (by rfl) (by rintro w' ⟨s0, s1, s2⟩; go_simp; with_reducible rfl) (by go_simp; rfl) ?_
  refine pu_ 7 (some 25) (bm 18 255) HT_ (by as_aux_lemma => kernel_rfl) rfl rfl (fun _ _ _ h => h) (by rfl) (by intro w'; go_simp; with_reducible rfl) (by go_simp; rfl) ?_
  refine pu_ 8 (some 26) (bm 18 511) HT_ (by as_aux_lemma => kernel_rfl) rfl rfl (fun _ _ _ h => h) (by rfl) (by intro w'; go_simp; with_reducible rfl) (by go_simp; rfl) ?_
  refine pu_ 9 (some 27) (bm 18 1023) HT_ (by as_aux_lemma => kernel_rfl) rfl rfl (fun _ _ _ h => h) (by rfl) (by intro w'; go_simp; with_reducible rfl) (by go_simp; rfl) ?_
  refine pu_ 14 (some 32) (bm 18 17407) HT_ (by as_aux_lemma => kernel_rfl) rfl rfl (fun _ _ _ h => h) (by rfl) (by intro w'; go_simp; with_reducible rfl) (by go_simp; rfl) ?_
  refine tk_ 10 (some 28) (bm 18 18431) HT_ HW_ hHeld (by as_aux_lemma => kernel_rfl) rfl rfl (fun _ _ _ h => h) (by rfl) (by rintro w' ⟨s0, s1, s2⟩; go_simp; with_reducible rfl) (by go_simp; rfl) ?_
  refine pu_ 11 (some 29) (bm 18 20479) HT_ (by as_aux_lemma => kernel_rfl) rfl rfl (fun _ _ _ h => h) (by rfl) (by intro w'; go_simp; with_reducible rfl) (by go_simp; rfl) ?_
  refine pu_ 12 (some 30) (bm 18 24575) HT_ (by as_aux_lemma => kernel_rfl) rfl rfl (fun _ _ _ h => h) (by rfl) (by intro w'; go_simp; with_reducible rfl) (by go_simp; rfl) ?_
  refine tk_ 13 (some 31) (bm 18 32767) HT_ HW_ hHeld (by as_aux_lemma => kernel_rfl) rfl rfl (fun _ _ _ h => h) (by rfl) (by rintro w' ⟨s0, s1, s2⟩; go_simp; with_reducible rfl) (by go_simp; rfl) ?_
  refine pu_ 15 (some 33) (bm 18 65535) HT_ (by as_aux_lemma => kernel_rfl) rfl rfl (fun _ _ _ h => h) (by rfl) (by intro w'; go_simp; with_reducible rfl) (by go_simp; rfl) ?_
  refine pu_ 16 (some 34) (bm 18 131071) HT_ (by as_aux_lemma => kernel_rfl) rfl rfl (fun _ _ _ h => h) (by rfl) (by intro w'; go_simp; with_reducible rfl) (by go_simp; rfl) ?_
  refine one_ (i := 17) (N := some 35) (bm 18 262143) rfl rfl (one_of HT_.out (by as_aux_lemma => kernel_rfl)) (by as_aux_lemma => decide) (fun K hK => ?_)
  refine goes_ Try.func44 (by as_aux_lemma => kernel_rfl) rfl #[.pointer (some ⟨g, 0, none⟩), .bool (decide (c1.wordV ≤ most)), .int .i64 5] (by rfl) rfl rfl (by simp only [List.map_toArray, List.map_cons, List.map_nil]; rfl) ?_
  with_reducible refine (PS.Sk.need HP.out (decide (c1.wordV ≤ most)) 5).mono ?_
  rintro en x3 ⟨rfl, hp_⟩
  rw [← EB.out] at hp_
  obtain ⟨c3, ec_⟩ : ∃ z, z = c2.need (decide (1 ≤ c1.wordV) && decide (c1.wordV ≤ most)) 5 := ⟨_, rfl⟩
  rw [← ec_] at hp_
  have Ec3 := Aside0.mk ec_
  clear ec_
  have n0_ := Aside0.mk hp_
  clear HP hp_
  have HP := n0_
  clear n0_
  refine ⟨_, rfl, ?_⟩
  refine hK.out _ _ ⟨(PS.Sk.cell HP.out F0.out hg1 hg2), (PS.Sk.cell HP.out F1.out hg1 hg2), (PS.Sk.at_count HP.out).1⟩ (fun hHeld => ?_)
  clear hK K
  refine norm_ (a' := ?_) ?_ ?_
  rotate_left
  · show Act.put _ (some 35) _ = _
    simp only [Act.put, List.setIfInBounds_toArray, List.set_cons_zero, List.set_cons_succ, i64_w, i32_w]
    rfl
  refine done_ (done_of HT_.out (by as_aux_lemma => kernel_rfl)) ?_
  clear hge hge2
  go_upto_region 4 with (fail)
  have wk := wrap64_id (x := c1.wordV) (by omega) (by omega)
  have wk2 : IntKind.i64.wrap c1.wordV = c1.wordV := by rw [i64_w]; exact wk
  have n0_ := Aside0.mk (PS.Sk.below HP.out (below_drew (Below.refl _ _)))
  clear HP
  have HP := n0_
  clear n0_
  refine start_ (n := 15) (S := fun w' => w'.cell? ⟨w.heap.size, 0, none⟩ = some (.pointer (some ⟨g, 0, none⟩)) ∧ w'.cell? ⟨w.heap.size, 1, none⟩ = some (.pointer (some ⟨gm, 0, none⟩)) ∧ w'.cell? ⟨gm, 2, none⟩ = some (.int .u16 c0.wordV) ∧ w'.cell? ⟨gm, 3, none⟩ = some (.int .u16 c1.wordV)) (ds := []) (bm 15 0) (by as_aux_lemma => kernel_rfl) rfl (by as_aux_lemma => kernel_rfl) ⟨(PS.Sk.cell HP.out F0.out hg1 hg2), (PS.Sk.cell HP.out F1.out hg1 hg2), (PS.Sk.at_addr HP.out).1, (PS.Sk.at_count HP.out).1⟩ (fun hHeld => ?_)
  refine with_tabW span.tab4 span.bits4 (fun HT_ HW_ => ?_)
  refine pu_ 0 (some 36) (bm 15 1) HT_ (by as_aux_lemma => kernel_rfl) rfl rfl (fun _ _ _ h => h) (by rfl) (by intro w'; go_simp; with_reducible rfl) (by go_simp; rfl) ?_
  refine pu_ 2 (some 38) (bm 15 5) HT_ (by as_aux_lemma => kernel_rfl) rfl rfl (fun _ _ _ h => h) (by rfl) (by intro w'; go_simp; with_reducible rfl) (by go_simp; rfl) ?_
  refine pu_ 7 (some 43) (bm 15 133) HT_ (by as_aux_lemma => kernel_rfl) rfl rfl (fun _ _ _ h => h) (by rfl) (by intro w'; go_simp; with_reducible rfl) (by go_simp; rfl) ?_
  refine tk_ 1 (some 37) (bm 15 135) HT_ HW_ hHeld (by as_aux_lemma => kernel_rfl) rfl rfl (fun _ _ _ h => h) (by rfl) (by rintro w' ⟨s0, s1, s2, s3⟩; go_simp; with_reducible rfl) (by go_simp; rfl) ?_
  refine tk_ 3 (some 39) (bm 15 143) HT_ HW_ hHeld (by as_aux_lemma => kernel_rfl) rfl rfl (fun _ _ _ h => h) (by rfl) (by rintro w' ⟨s0, s1, s2, s3⟩; go_simp; with_reducible rfl) (by go_simp; rfl) ?_
  refine pu_ 4 (some 40) (bm 15 159) HT_ (by as_aux_lemma => kernel_rfl) rfl rfl (fun _ _ _ h => h) (by rfl) (by intro w'; go_simp; with_reducible rfl) (by go_simp; rfl) ?_
  refine pu_ 5 (some 41) (bm 15 191) HT_ (by as_aux_lemma => kernel_rfl) rfl rfl (fun _ _ _ h => h) (by rfl) (by intro w'; go_simp; with_reducible rfl) (by go_simp; rfl) ?_
  refine tk_ 6 (some 42) (bm 15 255) HT_ HW_ hHeld (by as_aux_lemma => kernel_rfl) rfl rfl (fun _ _ _ h => h) (by rfl) (by rintro w' ⟨s0, s1, s2, s3⟩; go_simp; with_reducible rfl) (by go_simp; rfl) ?_
  refine tk_ 8 (some 44) (bm 15 511) HT_ HW_ hHeld (by as_aux_lemma => kernel_rfl) rfl rfl (fun _ _ _ h => h) (by rfl) (by rintro w' ⟨s0, s1, s2, s3⟩; go_simp; with_reducible rfl) (by go_simp; rfl) ?_
  refine pu_ 9 (some 45) (bm 15 1023) HT_ (by as_aux_lemma => kernel_rfl) rfl rfl (fun _ _ _ h => h) (by rfl) (by intro w'; go_simp; with_reducible rfl) (by go_simp; rfl) ?_
  refine pu_ 10 (some 46) (bm 15 2047) HT_ (by as_aux_lemma => kernel_rfl) rfl rfl (fun _ _ _ h => h) (by rfl) (by intro w'; go_simp; with_reducible rfl) (by go_simp; rfl) ?_
  refine tk_ 11 (some 47) (bm 15 4095) HT_ HW_ hHeld (by as_aux_lemma => kernel_rfl) rfl rfl (fun _ _ _ h => h) (by rfl) (by rintro w' ⟨s0, s1, s2, s3⟩; go_simp; with_reducible rfl) (by go_simp; rfl) ?_
  refine pu_ 12 (some 48) (bm 15 8191) HT_ (by as_aux_lemma => kernel_rfl) rfl rfl (fun _ _ _ h => h) (by rfl) (by intro w'; go_simp; with_reducible rfl) (by go_simp; rfl) ?_
  refine one_ (i := 13) (N := some 49) (bm 15 16383) rfl rfl (one_of HT_.out (by as_aux_lemma => kernel_rfl)) (by as_aux_lemma => decide) (fun K hK => ?_)
  refine goes_ Try.func63 (by as_aux_lemma => kernel_rfl) rfl #[.int .u16 c0.wordV, .int .i64 c1.wordV] (by rfl) rfl rfl (by simp only [List.map_toArray, List.map_cons, List.map_nil]; rfl) ?_
  with_reducible refine (within_c ⟨l0, h0⟩ _).mono ?_
  rintro en x90 ⟨rfl, hb_⟩
  have n0_ := Aside0.mk (PS.Sk.below HP.out hb_)
  clear HP
  have HP := n0_
  clear n0_
  clear hb_
  refine ⟨_, rfl, ?_⟩
  refine hK.out _ _ ⟨(PS.Sk.cell HP.out F0.out hg1 hg2), (PS.Sk.cell HP.out F1.out hg1 hg2), (PS.Sk.at_addr HP.out).1, (PS.Sk.at_count HP.out).1⟩ (fun hHeld => ?_)
  clear hK K
  refine norm_ (a' := ?_) ?_ ?_
  rotate_left
  · show Act.put _ (some 49) _ = _
    simp only [Act.put, List.setIfInBounds_toArray, List.set_cons_zero, List.set_cons_succ, i64_w, i32_w]
    rfl
  refine one_ (i := 14) (N := some 50) (bm 15 32767) rfl rfl (one_of HT_.out (by as_aux_lemma => kernel_rfl)) (by as_aux_lemma => decide) (fun K hK => ?_)
  refine goes_ Try.func44 (by as_aux_lemma => kernel_rfl) rfl #[.pointer (some ⟨g, 0, none⟩), .bool (withinB c0.wordV c1.wordV), .int .i64 7] (by rfl) rfl rfl (by simp only [List.map_toArray, List.map_cons, List.map_nil]; rfl) ?_
  with_reducible refine (PS.Sk.need HP.out (withinB c0.wordV c1.wordV) 7).mono ?_
  rintro en x4 ⟨rfl, hp_⟩
  obtain ⟨c4, ec_⟩ : ∃ z, z = c3.need (withinB c0.wordV c1.wordV) 7 := ⟨_, rfl⟩
  rw [← ec_] at hp_
  have Ec4 := Aside0.mk ec_
  clear ec_
  have n0_ := Aside0.mk hp_
  clear HP hp_
  have HP := n0_
  clear n0_
  refine ⟨_, rfl, ?_⟩
  refine hK.out _ _ ⟨(PS.Sk.cell HP.out F0.out hg1 hg2), (PS.Sk.cell HP.out F1.out hg1 hg2), (PS.Sk.at_addr HP.out).1, (PS.Sk.at_count HP.out).1⟩ (fun hHeld => ?_)
  clear hK K
  refine norm_ (a' := ?_) ?_ ?_
  rotate_left
  · show Act.put _ (some 50) _ = _
    simp only [Act.put, List.setIfInBounds_toArray, List.set_cons_zero, List.set_cons_succ, i64_w, i32_w]
    rfl
  refine done_ (done_of HT_.out (by as_aux_lemma => kernel_rfl)) ?_
  go_wp2
  have eq_ : spanR most m c0 = (c4, { ({ m with addr := c0.wordV } : Msg) with count := c1.wordV }) := by
    rw [Ec4.out, Ec3.out, Ec2.out, Ec1.out]
    rfl
  rw [eq_]
  exact bodyPost_end (results_none rfl _ _ _) rfl (⟨rfl, PS.Sk.over HP.out (HKP.out.alloc _)⟩)
theorem span_0 {wb w0 w : World} {gr g gm : Nat} {c0 : Cu} {m : Msg} (h : PS.Sk wb w0 gr g gm w c0 m) {most : Int} (hmo : 0 ≤ most ∧ most < 65536) (hg : ¬ 1 ≤ c0.wordS.wordV) :
    Calls Try.prog 42 #[.agg #[.pointer (some ⟨g, 0, none⟩), .pointer (some ⟨gm, 0, none⟩)], .int .u16 most] w fun en w' => en = .returned (.tuple #[]) ∧ PS.Sk wb w0 gr g gm w' (spanR most m c0).1 (spanR most m c0).2 := by
  have HMO := Aside0.mk hmo
  clear hmo
  have hlt := PS.Sk.lt h
  have HKP := Aside0.mk h.kp
  have HP := Aside0.mk (PS.Sk.start (PS.St.below h.st (below_alloc (Below.refl _ _) (.cells #[.pointer (some ⟨g, 0, none⟩), .pointer (some ⟨gm, 0, none⟩)] 50))))
  have F0 := Aside0.mk (show (w.alloc (.cells #[.pointer (some ⟨g, 0, none⟩), .pointer (some ⟨gm, 0, none⟩)] 50)).cell? ⟨w.heap.size, 0, none⟩ = some (.pointer (some ⟨g, 0, none⟩)) from (blk_cell (blk_new w (.cells #[.pointer (some ⟨g, 0, none⟩), .pointer (some ⟨gm, 0, none⟩)] 50)) 0).trans rfl)
  have F1 := Aside0.mk (show (w.alloc (.cells #[.pointer (some ⟨g, 0, none⟩), .pointer (some ⟨gm, 0, none⟩)] 50)).cell? ⟨w.heap.size, 1, none⟩ = some (.pointer (some ⟨gm, 0, none⟩)) from (blk_cell (blk_new w (.cells #[.pointer (some ⟨g, 0, none⟩), .pointer (some ⟨gm, 0, none⟩)] 50)) 1).trans rfl)
  have hg1 : w.heap.size ≠ g := by omega
  have hg2 : w.heap.size ≠ gm := by omega
  clear hlt h
  go_enter Try.func42, Try.ntmps42
  go_upto_region 1 with (fail)
  have n0_ := Aside0.mk (PS.Sk.below HP.out (below_drew (Below.refl _ _)))
  clear HP
  have HP := n0_
  clear n0_
  obtain ⟨l0, h0⟩ := Cu.wordV_bd (PS.Sk.good HP.out)
  refine start_ (n := 8) (S := fun w' => w'.cell? ⟨w.heap.size, 0, none⟩ = some (.pointer (some ⟨g, 0, none⟩)) ∧ w'.cell? ⟨w.heap.size, 1, none⟩ = some (.pointer (some ⟨gm, 0, none⟩))) (ds := []) (bm 8 0) (by as_aux_lemma => kernel_rfl) rfl (by as_aux_lemma => kernel_rfl) ⟨(PS.Sk.cell HP.out F0.out hg1 hg2), (PS.Sk.cell HP.out F1.out hg1 hg2)⟩ (fun hHeld => ?_)
  refine with_tabW span.tab1 span.bits1 (fun HT_ HW_ => ?_)
  refine pu_ 0 (some 4) (bm 8 1) HT_ (by as_aux_lemma => kernel_rfl) rfl rfl (fun _ _ _ h => h) (by rfl) (by intro w'; go_simp; with_reducible rfl) (by go_simp; rfl) ?_
  refine pu_ 2 (some 6) (bm 8 5) HT_ (by as_aux_lemma => kernel_rfl) rfl rfl (fun _ _ _ h => h) (by rfl) (by intro w'; go_simp; with_reducible rfl) (by go_simp; rfl) ?_
  refine tk_ 1 (some 5) (bm 8 7) HT_ HW_ hHeld (by as_aux_lemma => kernel_rfl) rfl rfl (fun _ _ _ h => h) (by rfl) (by rintro w' ⟨s0, s1⟩; go_simp; with_reducible rfl) (by go_simp; rfl) ?_
  refine tk_ 3 (some 7) (bm 8 15) HT_ HW_ hHeld (by as_aux_lemma => kernel_rfl) rfl rfl (fun _ _ _ h => h) (by rfl) (by rintro w' ⟨s0, s1⟩; go_simp; with_reducible rfl) (by go_simp; rfl) ?_
  refine one_ (i := 4) (N := some 8) (bm 8 31) rfl rfl (one_of HT_.out (by as_aux_lemma => kernel_rfl)) (by as_aux_lemma => decide) (fun K hK => ?_)
  refine goes_ Try.func46 (by as_aux_lemma => kernel_rfl) rfl #[.pointer (some ⟨g, 0, none⟩)] (by rfl) rfl rfl (by simp only [List.map_toArray, List.map_cons, List.map_nil]; rfl) ?_
  with_reducible refine (PS.Sk.word HP.out).mono ?_
  rintro en x1 ⟨rfl, hp_⟩
  obtain ⟨c1, ec_⟩ : ∃ z, z = c0.wordS := ⟨_, rfl⟩
  rw [← ec_] at hp_
  have Ec1 := Aside0.mk ec_
  clear ec_
  obtain ⟨kaddr, faddr⟩ := PS.Sk.at_addr hp_
  have n0_ := Aside0.mk hp_
  clear HP hp_
  have HP := n0_
  clear n0_
  refine ⟨_, rfl, ?_⟩
  refine hK.out _ _ ⟨(PS.Sk.cell HP.out F0.out hg1 hg2), (PS.Sk.cell HP.out F1.out hg1 hg2)⟩ (fun hHeld => ?_)
  clear hK K
  refine norm_ (a' := ?_) ?_ ?_
  rotate_left
  · show Act.put _ (some 8) _ = _
    simp only [Act.put, List.setIfInBounds_toArray, List.set_cons_zero, List.set_cons_succ, i64_w, i32_w]
    rfl
  refine pu_ 5 (some 9) (bm 8 63) HT_ (by as_aux_lemma => kernel_rfl) rfl rfl (fun _ _ _ h => h) (by rfl) (by intro w'; go_simp; with_reducible rfl) (by go_simp; rfl) ?_
  refine pu_ 6 (some 10) (bm 8 127) HT_ (by as_aux_lemma => kernel_rfl) rfl rfl (fun _ _ _ h => h) (by rfl) (by intro w'; go_simp; with_reducible rfl) (by go_simp; rfl) ?_
  refine one_ (i := 7) (N := none) (bm 8 255) rfl rfl (one_of HT_.out (by as_aux_lemma => kernel_rfl)) (by as_aux_lemma => decide) (fun K hK => ?_)
  refine skip_ (w1 := ?_) (by rfl) rfl ?_ ?_
  rotate_left
  · go_simp
    rfl
  have hp_ := HP.out.put_addr ⟨l0, h0⟩
  have n0_ := Aside0.mk hp_
  clear HP hp_
  have HP := n0_
  clear n0_
  refine hK.out _ _ ⟨(PS.Sk.cell HP.out F0.out hg1 hg2), (PS.Sk.cell HP.out F1.out hg1 hg2)⟩ (fun hHeld => ?_)
  clear hK K
  refine done_ (done_of HT_.out (by as_aux_lemma => kernel_rfl)) ?_
  clear kaddr faddr
  go_upto_region 2 with (fail)
  have n0_ := Aside0.mk (PS.Sk.below HP.out (below_drew (Below.refl _ _)))
  clear HP
  have HP := n0_
  clear n0_
  obtain ⟨l1, h1⟩ := Cu.wordV_bd (PS.Sk.good HP.out)
  refine start_ (n := 8) (S := fun w' => w'.cell? ⟨w.heap.size, 0, none⟩ = some (.pointer (some ⟨g, 0, none⟩)) ∧ w'.cell? ⟨w.heap.size, 1, none⟩ = some (.pointer (some ⟨gm, 0, none⟩))) (ds := []) (bm 8 0) (by as_aux_lemma => kernel_rfl) rfl (by as_aux_lemma => kernel_rfl) ⟨(PS.Sk.cell HP.out F0.out hg1 hg2), (PS.Sk.cell HP.out F1.out hg1 hg2)⟩ (fun hHeld => ?_)
  refine with_tabW span.tab2 span.bits2 (fun HT_ HW_ => ?_)
  refine pu_ 0 (some 11) (bm 8 1) HT_ (by as_aux_lemma => kernel_rfl) rfl rfl (fun _ _ _ h => h) (by rfl) (by intro w'; go_simp; with_reducible rfl) (by go_simp; rfl) ?_
  refine pu_ 2 (some 13) (bm 8 5) HT_ (by as_aux_lemma => kernel_rfl) rfl rfl (fun _ _ _ h => h) (by rfl) (by intro w'; go_simp; with_reducible rfl) (by go_simp; rfl) ?_
  refine tk_ 1 (some 12) (bm 8 7) HT_ HW_ hHeld (by as_aux_lemma => kernel_rfl) rfl rfl (fun _ _ _ h => h) (by rfl) (by rintro w' ⟨s0, s1⟩; go_simp; with_reducible rfl) (by go_simp; rfl) ?_
  refine tk_ 3 (some 14) (bm 8 15) HT_ HW_ hHeld (by as_aux_lemma => kernel_rfl) rfl rfl (fun _ _ _ h => h) (by rfl) (by rintro w' ⟨s0, s1⟩; go_simp; with_reducible rfl) (by go_simp; rfl) ?_
  refine one_ (i := 4) (N := some 15) (bm 8 31) rfl rfl (one_of HT_.out (by as_aux_lemma => kernel_rfl)) (by as_aux_lemma => decide) (fun K hK => ?_)
  refine goes_ Try.func46 (by as_aux_lemma => kernel_rfl) rfl #[.pointer (some ⟨g, 0, none⟩)] (by rfl) rfl rfl (by simp only [List.map_toArray, List.map_cons, List.map_nil]; rfl) ?_
  with_reducible refine (PS.Sk.word HP.out).mono ?_
  rintro en x2 ⟨rfl, hp_⟩
  obtain ⟨c2, ec_⟩ : ∃ z, z = c1.wordS := ⟨_, rfl⟩
  rw [← ec_] at hp_
  have Ec2 := Aside0.mk ec_
  clear ec_
  obtain ⟨kcount, fcount⟩ := PS.Sk.at_count hp_
  have n0_ := Aside0.mk hp_
  clear HP hp_
  have HP := n0_
  clear n0_
  refine ⟨_, rfl, ?_⟩
  refine hK.out _ _ ⟨(PS.Sk.cell HP.out F0.out hg1 hg2), (PS.Sk.cell HP.out F1.out hg1 hg2)⟩ (fun hHeld => ?_)
  clear hK K
  refine norm_ (a' := ?_) ?_ ?_
  rotate_left
  · show Act.put _ (some 15) _ = _
    simp only [Act.put, List.setIfInBounds_toArray, List.set_cons_zero, List.set_cons_succ, i64_w, i32_w]
    rfl
  refine pu_ 5 (some 16) (bm 8 63) HT_ (by as_aux_lemma => kernel_rfl) rfl rfl (fun _ _ _ h => h) (by rfl) (by intro w'; go_simp; with_reducible rfl) (by go_simp; rfl) ?_
  refine pu_ 6 (some 17) (bm 8 127) HT_ (by as_aux_lemma => kernel_rfl) rfl rfl (fun _ _ _ h => h) (by rfl) (by intro w'; go_simp; with_reducible rfl) (by go_simp; rfl) ?_
  refine one_ (i := 7) (N := none) (bm 8 255) rfl rfl (one_of HT_.out (by as_aux_lemma => kernel_rfl)) (by as_aux_lemma => decide) (fun K hK => ?_)
  refine skip_ (w1 := ?_) (by rfl) rfl ?_ ?_
  rotate_left
  · go_simp
    rfl
  have hp_ := HP.out.put_count ⟨l1, h1⟩
  have n0_ := Aside0.mk hp_
  clear HP hp_
  have HP := n0_
  clear n0_
  refine hK.out _ _ ⟨(PS.Sk.cell HP.out F0.out hg1 hg2), (PS.Sk.cell HP.out F1.out hg1 hg2)⟩ (fun hHeld => ?_)
  clear hK K
  refine done_ (done_of HT_.out (by as_aux_lemma => kernel_rfl)) ?_
  clear kcount fcount
  go_upto_region 3 with (fail)
  have hge : decide (1 ≤ c1.wordV) = false := by rw [Ec1.out]; exact decide_eq_false hg
  have hge2 : decide (c1.wordV ≥ 1) = false := hge
  have EB := Aside0.mk (show (decide (1 ≤ c1.wordV) && decide (c1.wordV ≤ most)) = (false) from by rw [hge]; rfl)
  have n0_ := Aside0.mk (PS.Sk.below HP.out (below_drew (Below.refl _ _)))
  clear HP
  have HP := n0_
  clear n0_
  refine start_ (n := 18) (S := fun w' => w'.cell? ⟨w.heap.size, 0, none⟩ = some (.pointer (some ⟨g, 0, none⟩)) ∧ w'.cell? ⟨w.heap.size, 1, none⟩ = some (.pointer (some ⟨gm, 0, none⟩)) ∧ w'.cell? ⟨gm, 3, none⟩ = some (.int .u16 c1.wordV)) (ds := []) (bm 18 0) (by as_aux_lemma => kernel_rfl) rfl (by as_aux_lemma => kernel_rfl) ⟨(PS.Sk.cell HP.out F0.out hg1 hg2), (PS.Sk.cell HP.out F1.out hg1 hg2), (PS.Sk.at_count HP.out).1⟩ (fun hHeld => ?_)
  refine with_tabW span.tab3 span.bits3 (fun HT_ HW_ => ?_)
  refine pu_ 0 (some 18) (bm 18 1) HT_ (by as_aux_lemma => kernel_rfl) rfl rfl (fun _ _ _ h => h) (by rfl) (by intro w'; go_simp; with_reducible rfl) (by go_simp; rfl) ?_
  refine pu_ 2 (some 20) (bm 18 5) HT_ (by as_aux_lemma => kernel_rfl) rfl rfl (fun _ _ _ h => h) (by rfl) (by intro w'; go_simp; with_reducible rfl) (by go_simp; rfl) ?_
  refine tk_ 1 (some 19) (bm 18 7) HT_ HW_ hHeld (by as_aux_lemma => kernel_rfl) rfl rfl (fun _ _ _ h => h) (by rfl) (by rintro w' ⟨s0, s1, s2⟩; go_simp; with_reducible rfl) (by go_simp; rfl) ?_
  refine tk_ 3 (some 21) (bm 18 15) HT_ HW_ hHeld (by as_aux_lemma => kernel_rfl) rfl rfl (fun _ _ _ h => h) (by rfl) (by rintro w' ⟨s0, s1, s2⟩; go_simp; with_reducible rfl) (by go_simp; rfl) ?_
  refine pu_ 4 (some 22) (bm 18 31) HT_ (by as_aux_lemma => kernel_rfl) rfl rfl (fun _ _ _ h => h) (by rfl) (by intro w'; go_simp; with_reducible rfl) (by go_simp; rfl) ?_
  refine pu_ 5 (some 23) (bm 18 63) HT_ (by as_aux_lemma => kernel_rfl) rfl rfl (fun _ _ _ h => h) (by rfl) (by intro w'; go_simp; with_reducible rfl) (by go_simp; rfl) ?_
  refine tk_ 6 (some 24) (bm 18 127) HT_ HW_ hHeld (by as_aux_lemma => kernel_rfl) rfl rfl (fun _ _ _ h => h) (by rfl) (by rintro w' ⟨s0, s1, s2⟩; go_simp; with_reducible rfl) (by go_simp; rfl) ?_
  refine pu_ 7 (some 25) (bm 18 255) HT_ (by as_aux_lemma => kernel_rfl) rfl rfl (fun _ _ _ h => h) (by rfl) (by intro w'; go_simp; with_reducible rfl) (by go_simp; rfl) ?_
  refine pu_ 8 (some 26) (bm 18 511) HT_ (by as_aux_lemma => kernel_rfl) rfl rfl (fun _ _ _ h => h) (by rfl) (by intro w'; go_simp; with_reducible rfl) (by go_simp; rfl) ?_
  refine po_ 9 (some 27) (bm 18 1023) HT_ (by as_aux_lemma => kernel_rfl) rfl rfl (fun _ _ _ h => h) (by rfl) (by go_simp; rfl) ?_
  refine po_ 10 (some 28) (bm 18 2047) HT_ (by as_aux_lemma => kernel_rfl) rfl rfl (fun _ _ _ h => h) (by rfl) (by go_simp; rfl) ?_
  refine po_ 11 (some 29) (bm 18 4095) HT_ (by as_aux_lemma => kernel_rfl) rfl rfl (fun _ _ _ h => h) (by rfl) (by go_simp; rfl) ?_
  refine po_ 12 (some 30) (bm 18 8191) HT_ (by as_aux_lemma => kernel_rfl) rfl rfl (fun _ _ _ h => h) (by rfl) (by go_simp; rfl) ?_
  refine po_ 13 (some 31) (bm 18 16383) HT_ (by as_aux_lemma => kernel_rfl) rfl rfl (fun _ _ _ h => h) (by rfl) (by go_simp; rfl) ?_
  refine po_ 14 (some 32) (bm 18 32767) HT_ (by as_aux_lemma => kernel_rfl) rfl rfl (fun _ _ _ h => h) (by rfl) (by go_simp; rfl) ?_
  refine po_ 15 (some 33) (bm 18 65535) HT_ (by as_aux_lemma => kernel_rfl) rfl rfl (fun _ _ _ h => h) (by rfl) (by go_simp; rfl) ?_
  refine pu_ 16 (some 34) (bm 18 131071) HT_ (by as_aux_lemma => kernel_rfl) rfl rfl (fun _ _ _ h => h) (by rfl) (by intro w'; go_simp; with_reducible rfl) (by go_simp; rfl) ?_
  refine one_ (i := 17) (N := some 35) (bm 18 262143) rfl rfl (one_of HT_.out (by as_aux_lemma => kernel_rfl)) (by as_aux_lemma => decide) (fun K hK => ?_)
  refine goes_ Try.func44 (by as_aux_lemma => kernel_rfl) rfl #[.pointer (some ⟨g, 0, none⟩), .bool (false), .int .i64 5] (by rfl) rfl rfl (by simp only [List.map_toArray, List.map_cons, List.map_nil]; rfl) ?_
  with_reducible refine (PS.Sk.need HP.out (false) 5).mono ?_
  rintro en x3 ⟨rfl, hp_⟩
  rw [← EB.out] at hp_
  obtain ⟨c3, ec_⟩ : ∃ z, z = c2.need (decide (1 ≤ c1.wordV) && decide (c1.wordV ≤ most)) 5 := ⟨_, rfl⟩
  rw [← ec_] at hp_
  have Ec3 := Aside0.mk ec_
  clear ec_
  have n0_ := Aside0.mk hp_
  clear HP hp_
  have HP := n0_
  clear n0_
  refine ⟨_, rfl, ?_⟩
  refine hK.out _ _ ⟨(PS.Sk.cell HP.out F0.out hg1 hg2), (PS.Sk.cell HP.out F1.out hg1 hg2), (PS.Sk.at_count HP.out).1⟩ (fun hHeld => ?_)
  clear hK K
  refine norm_ (a' := ?_) ?_ ?_
  rotate_left
  · show Act.put _ (some 35) _ = _
    simp only [Act.put, List.setIfInBounds_toArray, List.set_cons_zero, List.set_cons_succ, i64_w, i32_w]
    rfl
  refine done_ (done_of HT_.out (by as_aux_lemma => kernel_rfl)) ?_
  clear hge hge2
  go_upto_region 4 with (fail)
  have wk := wrap64_id (x := c1.wordV) (by omega) (by omega)
  have wk2 : IntKind.i64.wrap c1.wordV = c1.wordV := by rw [i64_w]; exact wk
  have n0_ := Aside0.mk (PS.Sk.below HP.out (below_drew (Below.refl _ _)))
  clear HP
  have HP := n0_
  clear n0_
  refine start_ (n := 15) (S := fun w' => w'.cell? ⟨w.heap.size, 0, none⟩ = some (.pointer (some ⟨g, 0, none⟩)) ∧ w'.cell? ⟨w.heap.size, 1, none⟩ = some (.pointer (some ⟨gm, 0, none⟩)) ∧ w'.cell? ⟨gm, 2, none⟩ = some (.int .u16 c0.wordV) ∧ w'.cell? ⟨gm, 3, none⟩ = some (.int .u16 c1.wordV)) (ds := []) (bm 15 0) (by as_aux_lemma => kernel_rfl) rfl (by as_aux_lemma => kernel_rfl) ⟨(PS.Sk.cell HP.out F0.out hg1 hg2), (PS.Sk.cell HP.out F1.out hg1 hg2), (PS.Sk.at_addr HP.out).1, (PS.Sk.at_count HP.out).1⟩ (fun hHeld => ?_)
  refine with_tabW span.tab4 span.bits4 (fun HT_ HW_ => ?_)
  refine pu_ 0 (some 36) (bm 15 1) HT_ (by as_aux_lemma => kernel_rfl) rfl rfl (fun _ _ _ h => h) (by rfl) (by intro w'; go_simp; with_reducible rfl) (by go_simp; rfl) ?_
  refine pu_ 2 (some 38) (bm 15 5) HT_ (by as_aux_lemma => kernel_rfl) rfl rfl (fun _ _ _ h => h) (by rfl) (by intro w'; go_simp; with_reducible rfl) (by go_simp; rfl) ?_
  refine pu_ 7 (some 43) (bm 15 133) HT_ (by as_aux_lemma => kernel_rfl) rfl rfl (fun _ _ _ h => h) (by rfl) (by intro w'; go_simp; with_reducible rfl) (by go_simp; rfl) ?_
  refine tk_ 1 (some 37) (bm 15 135) HT_ HW_ hHeld (by as_aux_lemma => kernel_rfl) rfl rfl (fun _ _ _ h => h) (by rfl) (by rintro w' ⟨s0, s1, s2, s3⟩; go_simp; with_reducible rfl) (by go_simp; rfl) ?_
  refine tk_ 3 (some 39) (bm 15 143) HT_ HW_ hHeld (by as_aux_lemma => kernel_rfl) rfl rfl (fun _ _ _ h => h) (by rfl) (by rintro w' ⟨s0, s1, s2, s3⟩; go_simp; with_reducible rfl) (by go_simp; rfl) ?_
  refine pu_ 4 (some 40) (bm 15 159) HT_ (by as_aux_lemma => kernel_rfl) rfl rfl (fun _ _ _ h => h) (by rfl) (by intro w'; go_simp; with_reducible rfl) (by go_simp; rfl) ?_
  refine pu_ 5 (some 41) (bm 15 191) HT_ (by as_aux_lemma => kernel_rfl) rfl rfl (fun _ _ _ h => h) (by rfl) (by intro w'; go_simp; with_reducible rfl) (by go_simp; rfl) ?_
  refine tk_ 6 (some 42) (bm 15 255) HT_ HW_ hHeld (by as_aux_lemma => kernel_rfl) rfl rfl (fun _ _ _ h => h) (by rfl) (by rintro w' ⟨s0, s1, s2, s3⟩; go_simp; with_reducible rfl) (by go_simp; rfl) ?_
  refine tk_ 8 (some 44) (bm 15 511) HT_ HW_ hHeld (by as_aux_lemma => kernel_rfl) rfl rfl (fun _ _ _ h => h) (by rfl) (by rintro w' ⟨s0, s1, s2, s3⟩; go_simp; with_reducible rfl) (by go_simp; rfl) ?_
  refine pu_ 9 (some 45) (bm 15 1023) HT_ (by as_aux_lemma => kernel_rfl) rfl rfl (fun _ _ _ h => h) (by rfl) (by intro w'; go_simp; with_reducible rfl) (by go_simp; rfl) ?_
  refine pu_ 10 (some 46) (bm 15 2047) HT_ (by as_aux_lemma => kernel_rfl) rfl rfl (fun _ _ _ h => h) (by rfl) (by intro w'; go_simp; with_reducible rfl) (by go_simp; rfl) ?_
  refine tk_ 11 (some 47) (bm 15 4095) HT_ HW_ hHeld (by as_aux_lemma => kernel_rfl) rfl rfl (fun _ _ _ h => h) (by rfl) (by rintro w' ⟨s0, s1, s2, s3⟩; go_simp; with_reducible rfl) (by go_simp; rfl) ?_
  refine pu_ 12 (some 48) (bm 15 8191) HT_ (by as_aux_lemma => kernel_rfl) rfl rfl (fun _ _ _ h => h) (by rfl) (by intro w'; go_simp; with_reducible rfl) (by go_simp; rfl) ?_
  refine one_ (i := 13) (N := some 49) (bm 15 16383) rfl rfl (one_of HT_.out (by as_aux_lemma => kernel_rfl)) (by as_aux_lemma => decide) (fun K hK => ?_)
  refine goes_ Try.func63 (by as_aux_lemma => kernel_rfl) rfl #[.int .u16 c0.wordV, .int .i64 c1.wordV] (by rfl) rfl rfl (by simp only [List.map_toArray, List.map_cons, List.map_nil]; rfl) ?_
  with_reducible refine (within_c ⟨l0, h0⟩ _).mono ?_
  rintro en x90 ⟨rfl, hb_⟩
  have n0_ := Aside0.mk (PS.Sk.below HP.out hb_)
  clear HP
  have HP := n0_
  clear n0_
  clear hb_
  refine ⟨_, rfl, ?_⟩
  refine hK.out _ _ ⟨(PS.Sk.cell HP.out F0.out hg1 hg2), (PS.Sk.cell HP.out F1.out hg1 hg2), (PS.Sk.at_addr HP.out).1, (PS.Sk.at_count HP.out).1⟩ (fun hHeld => ?_)
  clear hK K
  refine norm_ (a' := ?_) ?_ ?_
  rotate_left
  · show Act.put _ (some 49) _ = _
    simp only [Act.put, List.setIfInBounds_toArray, List.set_cons_zero, List.set_cons_succ, i64_w, i32_w]
    rfl
  refine one_ (i := 14) (N := some 50) (bm 15 32767) rfl rfl (one_of HT_.out (by as_aux_lemma => kernel_rfl)) (by as_aux_lemma => decide) (fun K hK => ?_)
  refine goes_ Try.func44 (by as_aux_lemma => kernel_rfl) rfl #[.pointer (some ⟨g, 0, none⟩), .bool (withinB c0.wordV c1.wordV), .int .i64 7] (by rfl) rfl rfl (by simp only [List.map_toArray, List.map_cons, List.map_nil]; rfl) ?_
  with_reducible refine (PS.Sk.need HP.out (withinB c0.wordV c1.wordV) 7).mono ?_
  rintro en x4 ⟨rfl, hp_⟩
  obtain ⟨c4, ec_⟩ : ∃ z, z = c3.need (withinB c0.wordV c1.wordV) 7 := ⟨_, rfl⟩
  rw [← ec_] at hp_
  have Ec4 := Aside0.mk ec_
  clear ec_
  have n0_ := Aside0.mk hp_
  clear HP hp_
  have HP := n0_
  clear n0_
  refine ⟨_, rfl, ?_⟩
  refine hK.out _ _ ⟨(PS.Sk.cell HP.out F0.out hg1 hg2), (PS.Sk.cell HP.out F1.out hg1 hg2), (PS.Sk.at_addr HP.out).1, (PS.Sk.at_count HP.out).1⟩ (fun hHeld => ?_)
  clear hK K
  refine norm_ (a' := ?_) ?_ ?_
  rotate_left
  · show Act.put _ (some 50) _ = _
    simp only [Act.put, List.setIfInBounds_toArray, List.set_cons_zero, List.set_cons_succ, i64_w, i32_w]
    rfl
  refine done_ (done_of HT_.out (by as_aux_lemma => kernel_rfl)) ?_
  go_wp2
  have eq_ : spanR most m c0 = (c4, { ({ m with addr := c0.wordV } : Msg) with count := c1.wordV }) := by
    rw [Ec4.out, Ec3.out, Ec2.out, Ec1.out]
    rfl
  rw [eq_]
  exact bodyPost_end (results_none rfl _ _ _) rfl (⟨rfl, PS.Sk.over HP.out (HKP.out.alloc _)⟩)
theorem span_any {wb w0 w : World} {gr g gm : Nat} {c0 : Cu} {m : Msg} (h : PS.Sk wb w0 gr g gm w c0 m) {most : Int} (hmo : 0 ≤ most ∧ most < 65536) :
    Calls Try.prog 42 #[.agg #[.pointer (some ⟨g, 0, none⟩), .pointer (some ⟨gm, 0, none⟩)], .int .u16 most] w fun en w' => en = .returned (.tuple #[]) ∧ PS.Sk wb w0 gr g gm w' (spanR most m c0).1 (spanR most m c0).2 := by
  by_cases hg : 1 ≤ c0.wordS.wordV
  · exact span_1 h hmo hg
  · exact span_0 h hmo hg
theorem asksRead_any {wb w0 w : World} {gr g gm : Nat} {c0 : Cu} {m : Msg} (h : PS.Sk wb w0 gr g gm w c0 m) :
    Calls Try.prog 21 #[.agg #[.pointer (some ⟨g, 0, none⟩), .pointer (some ⟨gm, 0, none⟩)]] w fun en w' => en = .returned (.tuple #[]) ∧ PS.Sk wb w0 gr g gm w' (spanR 2000 m c0).1 (spanR 2000 m c0).2 := by
  have hlt := PS.Sk.lt h
  have HKP := Aside0.mk h.kp
  have HP := Aside0.mk (PS.Sk.start (PS.St.below h.st (below_alloc (Below.refl _ _) (.cells #[.pointer (some ⟨g, 0, none⟩), .pointer (some ⟨gm, 0, none⟩)] 50))))
  have F0 := Aside0.mk (show (w.alloc (.cells #[.pointer (some ⟨g, 0, none⟩), .pointer (some ⟨gm, 0, none⟩)] 50)).cell? ⟨w.heap.size, 0, none⟩ = some (.pointer (some ⟨g, 0, none⟩)) from (blk_cell (blk_new w (.cells #[.pointer (some ⟨g, 0, none⟩), .pointer (some ⟨gm, 0, none⟩)] 50)) 0).trans rfl)
  have F1 := Aside0.mk (show (w.alloc (.cells #[.pointer (some ⟨g, 0, none⟩), .pointer (some ⟨gm, 0, none⟩)] 50)).cell? ⟨w.heap.size, 1, none⟩ = some (.pointer (some ⟨gm, 0, none⟩)) from (blk_cell (blk_new w (.cells #[.pointer (some ⟨g, 0, none⟩), .pointer (some ⟨gm, 0, none⟩)] 50)) 1).trans rfl)
  have hg1 : w.heap.size ≠ g := by omega
  have hg2 : w.heap.size ≠ gm := by omega
  clear hlt h
  go_enter Try.func21, Try.ntmps21
  have qF0 := PS.Sk.cell HP.out F0.out hg1 hg2
  have qF1 := PS.Sk.cell HP.out F1.out hg1 hg2
  go_wp2_with (first | (go_at_call 42; (with_reducible refine (span_any HP.out (most := 2000) (by decide)).mono ?_); rintro en x1 ⟨rfl, hp_⟩; have n0_ := Aside0.mk hp_; clear HP hp_; have HP := n0_; clear n0_))
  exact bodyPost_end (results_none rfl _ _ _) rfl (⟨rfl, PS.Sk.over HP.out (HKP.out.alloc _)⟩)
theorem done_any {wb w0 w : World} {gr g gm : Nat} {c0 : Cu} {m : Msg} (h : PS.Sk wb w0 gr g gm w c0 m) :
    Calls Try.prog 25 #[.agg #[.pointer (some ⟨g, 0, none⟩), .pointer (some ⟨gm, 0, none⟩)]] w fun en w' => en = .returned (.tuple #[]) ∧ PS.Sk wb w0 gr g gm w' (spanR 1968 m c0).1 (spanR 1968 m c0).2 := by
  have hlt := PS.Sk.lt h
  have HKP := Aside0.mk h.kp
  have HP := Aside0.mk (PS.Sk.start (PS.St.below h.st (below_alloc (Below.refl _ _) (.cells #[.pointer (some ⟨g, 0, none⟩), .pointer (some ⟨gm, 0, none⟩)] 50))))
  have F0 := Aside0.mk (show (w.alloc (.cells #[.pointer (some ⟨g, 0, none⟩), .pointer (some ⟨gm, 0, none⟩)] 50)).cell? ⟨w.heap.size, 0, none⟩ = some (.pointer (some ⟨g, 0, none⟩)) from (blk_cell (blk_new w (.cells #[.pointer (some ⟨g, 0, none⟩), .pointer (some ⟨gm, 0, none⟩)] 50)) 0).trans rfl)
  have F1 := Aside0.mk (show (w.alloc (.cells #[.pointer (some ⟨g, 0, none⟩), .pointer (some ⟨gm, 0, none⟩)] 50)).cell? ⟨w.heap.size, 1, none⟩ = some (.pointer (some ⟨gm, 0, none⟩)) from (blk_cell (blk_new w (.cells #[.pointer (some ⟨g, 0, none⟩), .pointer (some ⟨gm, 0, none⟩)] 50)) 1).trans rfl)
  have hg1 : w.heap.size ≠ g := by omega
  have hg2 : w.heap.size ≠ gm := by omega
  clear hlt h
  go_enter Try.func25, Try.ntmps25
  have qF0 := PS.Sk.cell HP.out F0.out hg1 hg2
  have qF1 := PS.Sk.cell HP.out F1.out hg1 hg2
  go_wp2_with (first | (go_at_call 42; (with_reducible refine (span_any HP.out (most := 1968) (by decide)).mono ?_); rintro en x1 ⟨rfl, hp_⟩; have n0_ := Aside0.mk hp_; clear HP hp_; have HP := n0_; clear n0_))
  exact bodyPost_end (results_none rfl _ _ _) rfl (⟨rfl, PS.Sk.over HP.out (HKP.out.alloc _)⟩)
def told.T3 : Bool × List (List Nat × List Nat) := (true, [([], []), ([0], [0]), ([], []), ([2], [2]), ([], []), ([4], [4]), ([3, 5], [3, 5]), ([1, 0, 1, 2, 3, 4, 5, 6], [1]), ([7, 0, 1, 2, 3, 4, 5, 6], [7]), ([8, 6, 6, 0, 1, 2, 3, 4, 5, 6], [6, 8])])
def told.B3 : List Nat := [0, 1, 0, 4, 0, 16, 60, 127, 255, 511]
theorem told.tab3 : rtab .any (opsOf Try.f22 3) = told.T3 := by kernel_rfl
theorem told.bits3 : waitsOk told.T3.2 told.B3 = true := by kernel_rfl
theorem told_1 {wb w0 w : World} {gr g gm : Nat} {c0 : Cu} {m : Msg} (h : PS.Sk wb w0 gr g gm w c0 m) (hg : 1 ≤ c0.byteV) :
    Calls Try.prog 22 #[.agg #[.pointer (some ⟨g, 0, none⟩), .pointer (some ⟨gm, 0, none⟩)]] w fun en w' => en = .returned (.tuple #[]) ∧ PS.Sk wb w0 gr g gm w' (toldR m c0).1 (toldR m c0).2 := by
  have HG := Aside0.mk hg
  clear hg
  have hlt := PS.Sk.lt h
  have HKP := Aside0.mk h.kp
  have HP := Aside0.mk (PS.Sk.start (PS.St.below h.st (below_alloc (Below.refl _ _) (.cells #[.pointer (some ⟨g, 0, none⟩), .pointer (some ⟨gm, 0, none⟩)] 50))))
  have F0 := Aside0.mk (show (w.alloc (.cells #[.pointer (some ⟨g, 0, none⟩), .pointer (some ⟨gm, 0, none⟩)] 50)).cell? ⟨w.heap.size, 0, none⟩ = some (.pointer (some ⟨g, 0, none⟩)) from (blk_cell (blk_new w (.cells #[.pointer (some ⟨g, 0, none⟩), .pointer (some ⟨gm, 0, none⟩)] 50)) 0).trans rfl)
  have F1 := Aside0.mk (show (w.alloc (.cells #[.pointer (some ⟨g, 0, none⟩), .pointer (some ⟨gm, 0, none⟩)] 50)).cell? ⟨w.heap.size, 1, none⟩ = some (.pointer (some ⟨gm, 0, none⟩)) from (blk_cell (blk_new w (.cells #[.pointer (some ⟨g, 0, none⟩), .pointer (some ⟨gm, 0, none⟩)] 50)) 1).trans rfl)
  have hg1 : w.heap.size ≠ g := by omega
  have hg2 : w.heap.size ≠ gm := by omega
  clear hlt h
  go_enter Try.func22, Try.ntmps22
  have qF0 := PS.Sk.cell HP.out F0.out hg1 hg2
  go_upto_region 2 with (first | (go_at_call 43; obtain ⟨l0, h0⟩ := Cu.byteV_bd (PS.Sk.good HP.out); (with_reducible refine (PS.Sk.byte HP.out).mono ?_); rintro en x1 ⟨rfl, hp_⟩; obtain ⟨c1, ec_⟩ : ∃ z, z = c0.byteS := ⟨_, rfl⟩; rw [← ec_] at hp_; have Ec1 := Aside0.mk ec_; clear ec_; have n0_ := Aside0.mk hp_; clear HP hp_; have HP := n0_; clear n0_))
  clear qF0
  have qF0 := PS.Sk.cell HP.out F0.out hg1 hg2
  have hge : decide (1 ≤ c0.byteV) = true := decide_eq_true HG.out
  have hge2 : decide (c0.byteV ≥ 1) = true := hge
  have EB := Aside0.mk (show (decide (1 ≤ c0.byteV) && decide (c0.byteV ≤ 250)) = (decide (c0.byteV ≤ 250)) from by rw [hge]; rfl)
  go_upto_region 3 with (first | (go_at_call 44; (with_reducible refine (PS.Sk.need HP.out (decide (c0.byteV ≤ 250)) 5).mono ?_); rintro en x2 ⟨rfl, hp_⟩; rw [← EB.out] at hp_; obtain ⟨c2, ec_⟩ : ∃ z, z = c1.need (decide (1 ≤ c0.byteV) && decide (c0.byteV ≤ 250)) 5 := ⟨_, rfl⟩; rw [← ec_] at hp_; have Ec2 := Aside0.mk ec_; clear ec_; have n0_ := Aside0.mk hp_; clear HP hp_; have HP := n0_; clear n0_))
  clear qF0
  clear hge hge2
  have HBY := Aside0.mk (Cu.bytes_bytesV (PS.Sk.good HP.out) (c0.byteV))
  have wk2 : IntKind.i64.wrap c0.byteV = c0.byteV := by rw [i64_w]; exact wrap64_id (by omega) (by omega)
  have n0_ := Aside0.mk (PS.Sk.below HP.out (below_drew (Below.refl _ _)))
  clear HP
  have HP := n0_
  clear n0_
  refine start_ (n := 10) (S := fun w' => w'.cell? ⟨w.heap.size, 0, none⟩ = some (.pointer (some ⟨g, 0, none⟩)) ∧ w'.cell? ⟨w.heap.size, 1, none⟩ = some (.pointer (some ⟨gm, 0, none⟩))) (ds := []) (bm 10 0) (by as_aux_lemma => kernel_rfl) rfl (by as_aux_lemma => kernel_rfl) ⟨(PS.Sk.cell HP.out F0.out hg1 hg2), (PS.Sk.cell HP.out F1.out hg1 hg2)⟩ (fun hHeld => ?_)
  refine with_tabW told.tab3 told.bits3 (fun HT_ HW_ => ?_)
  refine pu_ 0 (some 15) (bm 10 1) HT_ (by as_aux_lemma => kernel_rfl) rfl rfl (fun _ _ _ h => h) (by rfl) (by intro w'; go_simp; with_reducible rfl) (by go_simp; rfl) ?_
  refine pu_ 2 (some 17) (bm 10 5) HT_ (by as_aux_lemma => kernel_rfl) rfl rfl (fun _ _ _ h => h) (by rfl) (by intro w'; go_simp; with_reducible rfl) (by go_simp; rfl) ?_
  refine pu_ 4 (some 19) (bm 10 21) HT_ (by as_aux_lemma => kernel_rfl) rfl rfl (fun _ _ _ h => h) (by rfl) (by intro w'; go_simp; with_reducible rfl) (by go_simp; rfl) ?_
  refine pu_ 5 (some 20) (bm 10 53) HT_ (by as_aux_lemma => kernel_rfl) rfl rfl (fun _ _ _ h => h) (by rfl) (by intro w'; go_simp; with_reducible rfl) (by go_simp; rfl) ?_
  refine tk_ 1 (some 16) (bm 10 55) HT_ HW_ hHeld (by as_aux_lemma => kernel_rfl) rfl rfl (fun _ _ _ h => h) (by rfl) (by rintro w' ⟨s0, s1⟩; go_simp; with_reducible rfl) (by go_simp; rfl) ?_
  refine tk_ 3 (some 18) (bm 10 63) HT_ HW_ hHeld (by as_aux_lemma => kernel_rfl) rfl rfl (fun _ _ _ h => h) (by rfl) (by rintro w' ⟨s0, s1⟩; go_simp; with_reducible rfl) (by go_simp; rfl) ?_
  refine one_ (i := 6) (N := some 21) (bm 10 127) rfl rfl (one_of HT_.out (by as_aux_lemma => kernel_rfl)) (by as_aux_lemma => decide) (fun K hK => ?_)
  refine goes_ Try.func45 (by as_aux_lemma => kernel_rfl) rfl #[.pointer (some ⟨g, 0, none⟩), .int .i64 c0.byteV] (by rfl) rfl rfl (by simp only [List.map_toArray, List.map_cons, List.map_nil]; rfl) ?_
  with_reducible refine (PS.Sk.bytes HP.out (c0.byteV)).mono ?_
  rintro en x3 ⟨A5, n5, rfl, hz_, hr_, hp_⟩
  obtain ⟨c3, ec_⟩ : ∃ z, z = c2.bytesS (c0.byteV) := ⟨_, rfl⟩
  rw [← ec_] at hp_
  have Ec3 := Aside0.mk ec_
  clear ec_
  have R5 := Aside0.mk hr_
  have R5z := Aside0.mk hz_
  clear hr_ hz_
  have n0_ := Aside0.mk hp_
  clear HP hp_
  have HP := n0_
  clear n0_
  obtain ⟨Ad, nd, kd, fd⟩ := PS.Sk.at_data HP.out
  refine ⟨_, rfl, ?_⟩
  refine hK.out _ _ ⟨(PS.Sk.cell HP.out F0.out hg1 hg2), (PS.Sk.cell HP.out F1.out hg1 hg2)⟩ (fun hHeld => ?_)
  clear hK K
  refine norm_ (a' := ?_) ?_ ?_
  rotate_left
  · show Act.put _ (some 21) _ = _
    simp only [Act.put, List.setIfInBounds_toArray, List.set_cons_zero, List.set_cons_succ, i64_w, i32_w]
    rfl
  refine pu_ 7 (some 22) (bm 10 255) HT_ (by as_aux_lemma => kernel_rfl) rfl rfl (fun _ _ _ h => h) (by rfl) (by intro w'; go_simp; with_reducible rfl) (by go_simp; rfl) ?_
  refine pu_ 8 (some 23) (bm 10 511) HT_ (by as_aux_lemma => kernel_rfl) rfl rfl (fun _ _ _ h => h) (by rfl) (by intro w'; go_simp; with_reducible rfl) (by go_simp; rfl) ?_
  refine one_ (i := 9) (N := none) (bm 10 1023) rfl rfl (one_of HT_.out (by as_aux_lemma => kernel_rfl)) (by as_aux_lemma => decide) (fun K hK => ?_)
  refine skip_ (w1 := ?_) (by rfl) rfl ?_ ?_
  rotate_left
  · go_simp
    rfl
  have hp_ := HP.out.put_data R5z.out HBY.out R5.out
  have n0_ := Aside0.mk hp_
  clear HP hp_
  have HP := n0_
  clear n0_
  refine hK.out _ _ ⟨(PS.Sk.cell HP.out F0.out hg1 hg2), (PS.Sk.cell HP.out F1.out hg1 hg2)⟩ (fun hHeld => ?_)
  clear hK K
  refine done_ (done_of HT_.out (by as_aux_lemma => kernel_rfl)) ?_
  go_wp2
  have eq_ : toldR m c0 = (c3, { m with data := c2.bytesV c0.byteV }) := by
    rw [Ec3.out, Ec2.out, Ec1.out]
    rfl
  rw [eq_]
  exact bodyPost_end (results_none rfl _ _ _) rfl (⟨rfl, PS.Sk.over HP.out (HKP.out.alloc _)⟩)
theorem told_0 {wb w0 w : World} {gr g gm : Nat} {c0 : Cu} {m : Msg} (h : PS.Sk wb w0 gr g gm w c0 m) (hg : ¬ 1 ≤ c0.byteV) :
    Calls Try.prog 22 #[.agg #[.pointer (some ⟨g, 0, none⟩), .pointer (some ⟨gm, 0, none⟩)]] w fun en w' => en = .returned (.tuple #[]) ∧ PS.Sk wb w0 gr g gm w' (toldR m c0).1 (toldR m c0).2 := by
  have HG := Aside0.mk hg
  clear hg
  have hlt := PS.Sk.lt h
  have HKP := Aside0.mk h.kp
  have HP := Aside0.mk (PS.Sk.start (PS.St.below h.st (below_alloc (Below.refl _ _) (.cells #[.pointer (some ⟨g, 0, none⟩), .pointer (some ⟨gm, 0, none⟩)] 50))))
  have F0 := Aside0.mk (show (w.alloc (.cells #[.pointer (some ⟨g, 0, none⟩), .pointer (some ⟨gm, 0, none⟩)] 50)).cell? ⟨w.heap.size, 0, none⟩ = some (.pointer (some ⟨g, 0, none⟩)) from (blk_cell (blk_new w (.cells #[.pointer (some ⟨g, 0, none⟩), .pointer (some ⟨gm, 0, none⟩)] 50)) 0).trans rfl)
  have F1 := Aside0.mk (show (w.alloc (.cells #[.pointer (some ⟨g, 0, none⟩), .pointer (some ⟨gm, 0, none⟩)] 50)).cell? ⟨w.heap.size, 1, none⟩ = some (.pointer (some ⟨gm, 0, none⟩)) from (blk_cell (blk_new w (.cells #[.pointer (some ⟨g, 0, none⟩), .pointer (some ⟨gm, 0, none⟩)] 50)) 1).trans rfl)
  have hg1 : w.heap.size ≠ g := by omega
  have hg2 : w.heap.size ≠ gm := by omega
  clear hlt h
  go_enter Try.func22, Try.ntmps22
  have qF0 := PS.Sk.cell HP.out F0.out hg1 hg2
  go_upto_region 2 with (first | (go_at_call 43; obtain ⟨l0, h0⟩ := Cu.byteV_bd (PS.Sk.good HP.out); (with_reducible refine (PS.Sk.byte HP.out).mono ?_); rintro en x1 ⟨rfl, hp_⟩; obtain ⟨c1, ec_⟩ : ∃ z, z = c0.byteS := ⟨_, rfl⟩; rw [← ec_] at hp_; have Ec1 := Aside0.mk ec_; clear ec_; have n0_ := Aside0.mk hp_; clear HP hp_; have HP := n0_; clear n0_))
  clear qF0
  have qF0 := PS.Sk.cell HP.out F0.out hg1 hg2
  have hge : decide (1 ≤ c0.byteV) = false := decide_eq_false (by have := HG.out; omega)
  have hge2 : decide (c0.byteV ≥ 1) = false := hge
  have EB := Aside0.mk (show (decide (1 ≤ c0.byteV) && decide (c0.byteV ≤ 250)) = (false) from by rw [hge]; rfl)
  go_upto_region 3 with (first | (go_at_call 44; (with_reducible refine (PS.Sk.need HP.out (false) 5).mono ?_); rintro en x2 ⟨rfl, hp_⟩; rw [← EB.out] at hp_; obtain ⟨c2, ec_⟩ : ∃ z, z = c1.need (decide (1 ≤ c0.byteV) && decide (c0.byteV ≤ 250)) 5 := ⟨_, rfl⟩; rw [← ec_] at hp_; have Ec2 := Aside0.mk ec_; clear ec_; have n0_ := Aside0.mk hp_; clear HP hp_; have HP := n0_; clear n0_))
  clear qF0
  clear hge hge2
  have HBY := Aside0.mk (Cu.bytes_bytesV (PS.Sk.good HP.out) (c0.byteV))
  have wk2 : IntKind.i64.wrap c0.byteV = c0.byteV := by rw [i64_w]; exact wrap64_id (by omega) (by omega)
  have n0_ := Aside0.mk (PS.Sk.below HP.out (below_drew (Below.refl _ _)))
  clear HP
  have HP := n0_
  clear n0_
  refine start_ (n := 10) (S := fun w' => w'.cell? ⟨w.heap.size, 0, none⟩ = some (.pointer (some ⟨g, 0, none⟩)) ∧ w'.cell? ⟨w.heap.size, 1, none⟩ = some (.pointer (some ⟨gm, 0, none⟩))) (ds := []) (bm 10 0) (by as_aux_lemma => kernel_rfl) rfl (by as_aux_lemma => kernel_rfl) ⟨(PS.Sk.cell HP.out F0.out hg1 hg2), (PS.Sk.cell HP.out F1.out hg1 hg2)⟩ (fun hHeld => ?_)
  refine with_tabW told.tab3 told.bits3 (fun HT_ HW_ => ?_)
  refine pu_ 0 (some 15) (bm 10 1) HT_ (by as_aux_lemma => kernel_rfl) rfl rfl (fun _ _ _ h => h) (by rfl) (by intro w'; go_simp; with_reducible rfl) (by go_simp; rfl) ?_
  refine pu_ 2 (some 17) (bm 10 5) HT_ (by as_aux_lemma => kernel_rfl) rfl rfl (fun _ _ _ h => h) (by rfl) (by intro w'; go_simp; with_reducible rfl) (by go_simp; rfl) ?_
  refine pu_ 4 (some 19) (bm 10 21) HT_ (by as_aux_lemma => kernel_rfl) rfl rfl (fun _ _ _ h => h) (by rfl) (by intro w'; go_simp; with_reducible rfl) (by go_simp; rfl) ?_
  refine pu_ 5 (some 20) (bm 10 53) HT_ (by as_aux_lemma => kernel_rfl) rfl rfl (fun _ _ _ h => h) (by rfl) (by intro w'; go_simp; with_reducible rfl) (by go_simp; rfl) ?_
  refine tk_ 1 (some 16) (bm 10 55) HT_ HW_ hHeld (by as_aux_lemma => kernel_rfl) rfl rfl (fun _ _ _ h => h) (by rfl) (by rintro w' ⟨s0, s1⟩; go_simp; with_reducible rfl) (by go_simp; rfl) ?_
  refine tk_ 3 (some 18) (bm 10 63) HT_ HW_ hHeld (by as_aux_lemma => kernel_rfl) rfl rfl (fun _ _ _ h => h) (by rfl) (by rintro w' ⟨s0, s1⟩; go_simp; with_reducible rfl) (by go_simp; rfl) ?_
  refine one_ (i := 6) (N := some 21) (bm 10 127) rfl rfl (one_of HT_.out (by as_aux_lemma => kernel_rfl)) (by as_aux_lemma => decide) (fun K hK => ?_)
  refine goes_ Try.func45 (by as_aux_lemma => kernel_rfl) rfl #[.pointer (some ⟨g, 0, none⟩), .int .i64 c0.byteV] (by rfl) rfl rfl (by simp only [List.map_toArray, List.map_cons, List.map_nil]; rfl) ?_
  with_reducible refine (PS.Sk.bytes HP.out (c0.byteV)).mono ?_
  rintro en x3 ⟨A5, n5, rfl, hz_, hr_, hp_⟩
  obtain ⟨c3, ec_⟩ : ∃ z, z = c2.bytesS (c0.byteV) := ⟨_, rfl⟩
  rw [← ec_] at hp_
  have Ec3 := Aside0.mk ec_
  clear ec_
  have R5 := Aside0.mk hr_
  have R5z := Aside0.mk hz_
  clear hr_ hz_
  have n0_ := Aside0.mk hp_
  clear HP hp_
  have HP := n0_
  clear n0_
  obtain ⟨Ad, nd, kd, fd⟩ := PS.Sk.at_data HP.out
  refine ⟨_, rfl, ?_⟩
  refine hK.out _ _ ⟨(PS.Sk.cell HP.out F0.out hg1 hg2), (PS.Sk.cell HP.out F1.out hg1 hg2)⟩ (fun hHeld => ?_)
  clear hK K
  refine norm_ (a' := ?_) ?_ ?_
  rotate_left
  · show Act.put _ (some 21) _ = _
    simp only [Act.put, List.setIfInBounds_toArray, List.set_cons_zero, List.set_cons_succ, i64_w, i32_w]
    rfl
  refine pu_ 7 (some 22) (bm 10 255) HT_ (by as_aux_lemma => kernel_rfl) rfl rfl (fun _ _ _ h => h) (by rfl) (by intro w'; go_simp; with_reducible rfl) (by go_simp; rfl) ?_
  refine pu_ 8 (some 23) (bm 10 511) HT_ (by as_aux_lemma => kernel_rfl) rfl rfl (fun _ _ _ h => h) (by rfl) (by intro w'; go_simp; with_reducible rfl) (by go_simp; rfl) ?_
  refine one_ (i := 9) (N := none) (bm 10 1023) rfl rfl (one_of HT_.out (by as_aux_lemma => kernel_rfl)) (by as_aux_lemma => decide) (fun K hK => ?_)
  refine skip_ (w1 := ?_) (by rfl) rfl ?_ ?_
  rotate_left
  · go_simp
    rfl
  have hp_ := HP.out.put_data R5z.out HBY.out R5.out
  have n0_ := Aside0.mk hp_
  clear HP hp_
  have HP := n0_
  clear n0_
  refine hK.out _ _ ⟨(PS.Sk.cell HP.out F0.out hg1 hg2), (PS.Sk.cell HP.out F1.out hg1 hg2)⟩ (fun hHeld => ?_)
  clear hK K
  refine done_ (done_of HT_.out (by as_aux_lemma => kernel_rfl)) ?_
  go_wp2
  have eq_ : toldR m c0 = (c3, { m with data := c2.bytesV c0.byteV }) := by
    rw [Ec3.out, Ec2.out, Ec1.out]
    rfl
  rw [eq_]
  exact bodyPost_end (results_none rfl _ _ _) rfl (⟨rfl, PS.Sk.over HP.out (HKP.out.alloc _)⟩)
theorem told_any {wb w0 w : World} {gr g gm : Nat} {c0 : Cu} {m : Msg} (h : PS.Sk wb w0 gr g gm w c0 m) :
    Calls Try.prog 22 #[.agg #[.pointer (some ⟨g, 0, none⟩), .pointer (some ⟨gm, 0, none⟩)]] w fun en w' => en = .returned (.tuple #[]) ∧ PS.Sk wb w0 gr g gm w' (toldR m c0).1 (toldR m c0).2 := by
  by_cases hg : 1 ≤ c0.byteV
  · exact told_1 h hg
  · exact told_0 h hg
def sets.T1 : Bool × List (List Nat × List Nat) := (true, [([], []), ([0], [0]), ([], []), ([2], [2]), ([3], [3]), ([1, 0, 1, 2, 3, 4], [1]), ([5, 0, 1, 2, 3, 4], [5]), ([6, 4, 4, 0, 1, 2, 3, 4], [4, 6])])
def sets.B1 : List Nat := [0, 1, 0, 4, 12, 31, 63, 127]
theorem sets.tab1 : rtab .any (opsOf Try.f23 1) = sets.T1 := by kernel_rfl
theorem sets.bits1 : waitsOk sets.T1.2 sets.B1 = true := by kernel_rfl
def sets.T2 : Bool × List (List Nat × List Nat) := (true, [([], []), ([0], [0]), ([], []), ([2], [2]), ([3], [3]), ([1, 0, 1, 2, 3, 4], [1]), ([5, 0, 1, 2, 3, 4], [5]), ([6, 4, 4, 0, 1, 2, 3, 4], [4, 6])])
def sets.B2 : List Nat := [0, 1, 0, 4, 12, 31, 63, 127]
theorem sets.tab2 : rtab .any (opsOf Try.f23 2) = sets.T2 := by kernel_rfl
theorem sets.bits2 : waitsOk sets.T2.2 sets.B2 = true := by kernel_rfl
def sets.T3 : Bool × List (List Nat × List Nat) := (true, [([], []), ([0], [0]), ([], []), ([2], [2]), ([3], [3]), ([4], [4]), ([5], [5]), ([6], [6]), ([7], [7]), ([8], [8]), ([9, 8], [8, 9]), ([10, 8], [8, 10]), ([11, 8], [8, 11]), ([12, 8], [8, 12]), ([13, 8], [8, 13]), ([8, 14], [8, 14]), ([1, 15, 8], [1, 15])])
def sets.B3 : List Nat := [0, 1, 0, 4, 12, 28, 60, 124, 252, 508, 1020, 2044, 4092, 8188, 16380, 32764, 65535]
theorem sets.tab3 : rtab .any (opsOf Try.f23 3) = sets.T3 := by kernel_rfl
theorem sets.bits3 : waitsOk sets.T3.2 sets.B3 = true := by kernel_rfl
theorem sets_1 {wb w0 w : World} {gr g gm : Nat} {c0 : Cu} {m : Msg} (h : PS.Sk wb w0 gr g gm w c0 m) (hg : c0.wordS.wordV = 0) :
    Calls Try.prog 23 #[.agg #[.pointer (some ⟨g, 0, none⟩), .pointer (some ⟨gm, 0, none⟩)]] w fun en w' => en = .returned (.tuple #[]) ∧ PS.Sk wb w0 gr g gm w' (setsR m c0).1 (setsR m c0).2 := by
  have hlt := PS.Sk.lt h
  have HKP := Aside0.mk h.kp
  have HP := Aside0.mk (PS.Sk.start (PS.St.below h.st (below_alloc (Below.refl _ _) (.cells #[.pointer (some ⟨g, 0, none⟩), .pointer (some ⟨gm, 0, none⟩)] 50))))
  have F0 := Aside0.mk (show (w.alloc (.cells #[.pointer (some ⟨g, 0, none⟩), .pointer (some ⟨gm, 0, none⟩)] 50)).cell? ⟨w.heap.size, 0, none⟩ = some (.pointer (some ⟨g, 0, none⟩)) from (blk_cell (blk_new w (.cells #[.pointer (some ⟨g, 0, none⟩), .pointer (some ⟨gm, 0, none⟩)] 50)) 0).trans rfl)
  have F1 := Aside0.mk (show (w.alloc (.cells #[.pointer (some ⟨g, 0, none⟩), .pointer (some ⟨gm, 0, none⟩)] 50)).cell? ⟨w.heap.size, 1, none⟩ = some (.pointer (some ⟨gm, 0, none⟩)) from (blk_cell (blk_new w (.cells #[.pointer (some ⟨g, 0, none⟩), .pointer (some ⟨gm, 0, none⟩)] 50)) 1).trans rfl)
  have hg1 : w.heap.size ≠ g := by omega
  have hg2 : w.heap.size ≠ gm := by omega
  clear hlt h
  go_enter Try.func23, Try.ntmps23
  go_upto_region 1 with (fail)
  have n0_ := Aside0.mk (PS.Sk.below HP.out (below_drew (Below.refl _ _)))
  clear HP
  have HP := n0_
  clear n0_
  obtain ⟨l0, h0⟩ := Cu.wordV_bd (PS.Sk.good HP.out)
  refine start_ (n := 8) (S := fun w' => w'.cell? ⟨w.heap.size, 0, none⟩ = some (.pointer (some ⟨g, 0, none⟩)) ∧ w'.cell? ⟨w.heap.size, 1, none⟩ = some (.pointer (some ⟨gm, 0, none⟩))) (ds := []) (bm 8 0) (by as_aux_lemma => kernel_rfl) rfl (by as_aux_lemma => kernel_rfl) ⟨(PS.Sk.cell HP.out F0.out hg1 hg2), (PS.Sk.cell HP.out F1.out hg1 hg2)⟩ (fun hHeld => ?_)
  refine with_tabW sets.tab1 sets.bits1 (fun HT_ HW_ => ?_)
  refine pu_ 0 (some 2) (bm 8 1) HT_ (by as_aux_lemma => kernel_rfl) rfl rfl (fun _ _ _ h => h) (by rfl) (by intro w'; go_simp; with_reducible rfl) (by go_simp; rfl) ?_
  refine pu_ 2 (some 4) (bm 8 5) HT_ (by as_aux_lemma => kernel_rfl) rfl rfl (fun _ _ _ h => h) (by rfl) (by intro w'; go_simp; with_reducible rfl) (by go_simp; rfl) ?_
  refine tk_ 1 (some 3) (bm 8 7) HT_ HW_ hHeld (by as_aux_lemma => kernel_rfl) rfl rfl (fun _ _ _ h => h) (by rfl) (by rintro w' ⟨s0, s1⟩; go_simp; with_reducible rfl) (by go_simp; rfl) ?_
  refine tk_ 3 (some 5) (bm 8 15) HT_ HW_ hHeld (by as_aux_lemma => kernel_rfl) rfl rfl (fun _ _ _ h => h) (by rfl) (by rintro w' ⟨s0, s1⟩; go_simp; with_reducible rfl) (by go_simp; rfl) ?_
  refine one_ (i := 4) (N := some 6) (bm 8 31) rfl rfl (one_of HT_.out (by as_aux_lemma => kernel_rfl)) (by as_aux_lemma => decide) (fun K hK => ?_)
  refine goes_ Try.func46 (by as_aux_lemma => kernel_rfl) rfl #[.pointer (some ⟨g, 0, none⟩)] (by rfl) rfl rfl (by simp only [List.map_toArray, List.map_cons, List.map_nil]; rfl) ?_
  with_reducible refine (PS.Sk.word HP.out).mono ?_
  rintro en x1 ⟨rfl, hp_⟩
  obtain ⟨c1, ec_⟩ : ∃ z, z = c0.wordS := ⟨_, rfl⟩
  rw [← ec_] at hp_
  have Ec1 := Aside0.mk ec_
  clear ec_
  obtain ⟨kaddr, faddr⟩ := PS.Sk.at_addr hp_
  have n0_ := Aside0.mk hp_
  clear HP hp_
  have HP := n0_
  clear n0_
  refine ⟨_, rfl, ?_⟩
  refine hK.out _ _ ⟨(PS.Sk.cell HP.out F0.out hg1 hg2), (PS.Sk.cell HP.out F1.out hg1 hg2)⟩ (fun hHeld => ?_)
  clear hK K
  refine norm_ (a' := ?_) ?_ ?_
  rotate_left
  · show Act.put _ (some 6) _ = _
    simp only [Act.put, List.setIfInBounds_toArray, List.set_cons_zero, List.set_cons_succ, i64_w, i32_w]
    rfl
  refine pu_ 5 (some 7) (bm 8 63) HT_ (by as_aux_lemma => kernel_rfl) rfl rfl (fun _ _ _ h => h) (by rfl) (by intro w'; go_simp; with_reducible rfl) (by go_simp; rfl) ?_
  refine pu_ 6 (some 8) (bm 8 127) HT_ (by as_aux_lemma => kernel_rfl) rfl rfl (fun _ _ _ h => h) (by rfl) (by intro w'; go_simp; with_reducible rfl) (by go_simp; rfl) ?_
  refine one_ (i := 7) (N := none) (bm 8 255) rfl rfl (one_of HT_.out (by as_aux_lemma => kernel_rfl)) (by as_aux_lemma => decide) (fun K hK => ?_)
  refine skip_ (w1 := ?_) (by rfl) rfl ?_ ?_
  rotate_left
  · go_simp
    rfl
  have hp_ := HP.out.put_addr ⟨l0, h0⟩
  have n0_ := Aside0.mk hp_
  clear HP hp_
  have HP := n0_
  clear n0_
  refine hK.out _ _ ⟨(PS.Sk.cell HP.out F0.out hg1 hg2), (PS.Sk.cell HP.out F1.out hg1 hg2)⟩ (fun hHeld => ?_)
  clear hK K
  refine done_ (done_of HT_.out (by as_aux_lemma => kernel_rfl)) ?_
  clear kaddr faddr
  go_upto_region 2 with (fail)
  have n0_ := Aside0.mk (PS.Sk.below HP.out (below_drew (Below.refl _ _)))
  clear HP
  have HP := n0_
  clear n0_
  obtain ⟨l1, h1⟩ := Cu.wordV_bd (PS.Sk.good HP.out)
  refine start_ (n := 8) (S := fun w' => w'.cell? ⟨w.heap.size, 0, none⟩ = some (.pointer (some ⟨g, 0, none⟩)) ∧ w'.cell? ⟨w.heap.size, 1, none⟩ = some (.pointer (some ⟨gm, 0, none⟩))) (ds := []) (bm 8 0) (by as_aux_lemma => kernel_rfl) rfl (by as_aux_lemma => kernel_rfl) ⟨(PS.Sk.cell HP.out F0.out hg1 hg2), (PS.Sk.cell HP.out F1.out hg1 hg2)⟩ (fun hHeld => ?_)
  refine with_tabW sets.tab2 sets.bits2 (fun HT_ HW_ => ?_)
  refine pu_ 0 (some 9) (bm 8 1) HT_ (by as_aux_lemma => kernel_rfl) rfl rfl (fun _ _ _ h => h) (by rfl) (by intro w'; go_simp; with_reducible rfl) (by go_simp; rfl) ?_
  refine pu_ 2 (some 11) (bm 8 5) HT_ (by as_aux_lemma => kernel_rfl) rfl rfl (fun _ _ _ h => h) (by rfl) (by intro w'; go_simp; with_reducible rfl) (by go_simp; rfl) ?_
  refine tk_ 1 (some 10) (bm 8 7) HT_ HW_ hHeld (by as_aux_lemma => kernel_rfl) rfl rfl (fun _ _ _ h => h) (by rfl) (by rintro w' ⟨s0, s1⟩; go_simp; with_reducible rfl) (by go_simp; rfl) ?_
  refine tk_ 3 (some 12) (bm 8 15) HT_ HW_ hHeld (by as_aux_lemma => kernel_rfl) rfl rfl (fun _ _ _ h => h) (by rfl) (by rintro w' ⟨s0, s1⟩; go_simp; with_reducible rfl) (by go_simp; rfl) ?_
  refine one_ (i := 4) (N := some 13) (bm 8 31) rfl rfl (one_of HT_.out (by as_aux_lemma => kernel_rfl)) (by as_aux_lemma => decide) (fun K hK => ?_)
  refine goes_ Try.func46 (by as_aux_lemma => kernel_rfl) rfl #[.pointer (some ⟨g, 0, none⟩)] (by rfl) rfl rfl (by simp only [List.map_toArray, List.map_cons, List.map_nil]; rfl) ?_
  with_reducible refine (PS.Sk.word HP.out).mono ?_
  rintro en x2 ⟨rfl, hp_⟩
  obtain ⟨c2, ec_⟩ : ∃ z, z = c1.wordS := ⟨_, rfl⟩
  rw [← ec_] at hp_
  have Ec2 := Aside0.mk ec_
  clear ec_
  obtain ⟨kvalue, fvalue⟩ := PS.Sk.at_value hp_
  have n0_ := Aside0.mk hp_
  clear HP hp_
  have HP := n0_
  clear n0_
  refine ⟨_, rfl, ?_⟩
  refine hK.out _ _ ⟨(PS.Sk.cell HP.out F0.out hg1 hg2), (PS.Sk.cell HP.out F1.out hg1 hg2)⟩ (fun hHeld => ?_)
  clear hK K
  refine norm_ (a' := ?_) ?_ ?_
  rotate_left
  · show Act.put _ (some 13) _ = _
    simp only [Act.put, List.setIfInBounds_toArray, List.set_cons_zero, List.set_cons_succ, i64_w, i32_w]
    rfl
  refine pu_ 5 (some 14) (bm 8 63) HT_ (by as_aux_lemma => kernel_rfl) rfl rfl (fun _ _ _ h => h) (by rfl) (by intro w'; go_simp; with_reducible rfl) (by go_simp; rfl) ?_
  refine pu_ 6 (some 15) (bm 8 127) HT_ (by as_aux_lemma => kernel_rfl) rfl rfl (fun _ _ _ h => h) (by rfl) (by intro w'; go_simp; with_reducible rfl) (by go_simp; rfl) ?_
  refine one_ (i := 7) (N := none) (bm 8 255) rfl rfl (one_of HT_.out (by as_aux_lemma => kernel_rfl)) (by as_aux_lemma => decide) (fun K hK => ?_)
  refine skip_ (w1 := ?_) (by rfl) rfl ?_ ?_
  rotate_left
  · go_simp
    rfl
  have hp_ := HP.out.put_value ⟨l1, h1⟩
  have n0_ := Aside0.mk hp_
  clear HP hp_
  have HP := n0_
  clear n0_
  refine hK.out _ _ ⟨(PS.Sk.cell HP.out F0.out hg1 hg2), (PS.Sk.cell HP.out F1.out hg1 hg2)⟩ (fun hHeld => ?_)
  clear hK K
  refine done_ (done_of HT_.out (by as_aux_lemma => kernel_rfl)) ?_
  clear kvalue fvalue
  go_upto_region 3 with (fail)
  have hz : (c1.wordV == 0) = true := by rw [Ec1.out]; exact beq_iff_eq.2 hg
  have EB := Aside0.mk (show (c1.wordV == 0 || c1.wordV == 65280) = (true) from by rw [hz]; rfl)
  have n0_ := Aside0.mk (PS.Sk.below HP.out (below_drew (Below.refl _ _)))
  clear HP
  have HP := n0_
  clear n0_
  refine start_ (n := 17) (S := fun w' => w'.cell? ⟨w.heap.size, 0, none⟩ = some (.pointer (some ⟨g, 0, none⟩)) ∧ w'.cell? ⟨w.heap.size, 1, none⟩ = some (.pointer (some ⟨gm, 0, none⟩)) ∧ w'.cell? ⟨gm, 4, none⟩ = some (.int .u16 c1.wordV)) (ds := []) (bm 17 0) (by as_aux_lemma => kernel_rfl) rfl (by as_aux_lemma => kernel_rfl) ⟨(PS.Sk.cell HP.out F0.out hg1 hg2), (PS.Sk.cell HP.out F1.out hg1 hg2), (PS.Sk.at_value HP.out).1⟩ (fun hHeld => ?_)
  refine with_tabW sets.tab3 sets.bits3 (fun HT_ HW_ => ?_)
  refine pu_ 0 (some 16) (bm 17 1) HT_ (by as_aux_lemma => kernel_rfl) rfl rfl (fun _ _ _ h => h) (by rfl) (by intro w'; go_simp; with_reducible rfl) (by go_simp; rfl) ?_
  refine pu_ 2 (some 18) (bm 17 5) HT_ (by as_aux_lemma => kernel_rfl) rfl rfl (fun _ _ _ h => h) (by rfl) (by intro w'; go_simp; with_reducible rfl) (by go_simp; rfl) ?_
  refine tk_ 1 (some 17) (bm 17 7) HT_ HW_ hHeld (by as_aux_lemma => kernel_rfl) rfl rfl (fun _ _ _ h => h) (by rfl) (by rintro w' ⟨s0, s1, s2⟩; go_simp; with_reducible rfl) (by go_simp; rfl) ?_
  refine tk_ 3 (some 19) (bm 17 15) HT_ HW_ hHeld (by as_aux_lemma => kernel_rfl) rfl rfl (fun _ _ _ h => h) (by rfl) (by rintro w' ⟨s0, s1, s2⟩; go_simp; with_reducible rfl) (by go_simp; rfl) ?_
  refine pu_ 4 (some 20) (bm 17 31) HT_ (by as_aux_lemma => kernel_rfl) rfl rfl (fun _ _ _ h => h) (by rfl) (by intro w'; go_simp; with_reducible rfl) (by go_simp; rfl) ?_
  refine pu_ 5 (some 21) (bm 17 63) HT_ (by as_aux_lemma => kernel_rfl) rfl rfl (fun _ _ _ h => h) (by rfl) (by intro w'; go_simp; with_reducible rfl) (by go_simp; rfl) ?_
  refine tk_ 6 (some 22) (bm 17 127) HT_ HW_ hHeld (by as_aux_lemma => kernel_rfl) rfl rfl (fun _ _ _ h => h) (by rfl) (by rintro w' ⟨s0, s1, s2⟩; go_simp; with_reducible rfl) (by go_simp; rfl) ?_
  refine pu_ 7 (some 23) (bm 17 255) HT_ (by as_aux_lemma => kernel_rfl) rfl rfl (fun _ _ _ h => h) (by rfl) (by intro w'; go_simp; with_reducible rfl) (by go_simp; rfl) ?_
  refine pu_ 8 (some 24) (bm 17 511) HT_ (by as_aux_lemma => kernel_rfl) rfl rfl (fun _ _ _ h => h) (by rfl) (by intro w'; go_simp; with_reducible rfl) (by go_simp; rfl) ?_
  refine po_ 9 (some 25) (bm 17 1023) HT_ (by as_aux_lemma => kernel_rfl) rfl rfl (fun _ _ _ h => h) (by rfl) (by go_simp; rfl) ?_
  refine po_ 10 (some 26) (bm 17 2047) HT_ (by as_aux_lemma => kernel_rfl) rfl rfl (fun _ _ _ h => h) (by rfl) (by go_simp; rfl) ?_
  refine po_ 11 (some 27) (bm 17 4095) HT_ (by as_aux_lemma => kernel_rfl) rfl rfl (fun _ _ _ h => h) (by rfl) (by go_simp; rfl) ?_
  refine po_ 12 (some 28) (bm 17 8191) HT_ (by as_aux_lemma => kernel_rfl) rfl rfl (fun _ _ _ h => h) (by rfl) (by go_simp; rfl) ?_
  refine po_ 13 (some 29) (bm 17 16383) HT_ (by as_aux_lemma => kernel_rfl) rfl rfl (fun _ _ _ h => h) (by rfl) (by go_simp; rfl) ?_
  refine po_ 14 (some 30) (bm 17 32767) HT_ (by as_aux_lemma => kernel_rfl) rfl rfl (fun _ _ _ h => h) (by rfl) (by go_simp; rfl) ?_
  refine pu_ 15 (some 31) (bm 17 65535) HT_ (by as_aux_lemma => kernel_rfl) rfl rfl (fun _ _ _ h => h) (by rfl) (by intro w'; go_simp; with_reducible rfl) (by go_simp; rfl) ?_
  refine one_ (i := 16) (N := some 32) (bm 17 131071) rfl rfl (one_of HT_.out (by as_aux_lemma => kernel_rfl)) (by as_aux_lemma => decide) (fun K hK => ?_)
  refine goes_ Try.func44 (by as_aux_lemma => kernel_rfl) rfl #[.pointer (some ⟨g, 0, none⟩), .bool (true), .int .i64 6] (by rfl) rfl rfl (by simp only [List.map_toArray, List.map_cons, List.map_nil]; rfl) ?_
  with_reducible refine (PS.Sk.need HP.out (true) 6).mono ?_
  rintro en x3 ⟨rfl, hp_⟩
  rw [← EB.out] at hp_
  obtain ⟨c3, ec_⟩ : ∃ z, z = c2.need (c1.wordV == 0 || c1.wordV == 65280) 6 := ⟨_, rfl⟩
  rw [← ec_] at hp_
  have Ec3 := Aside0.mk ec_
  clear ec_
  have n0_ := Aside0.mk hp_
  clear HP hp_
  have HP := n0_
  clear n0_
  refine ⟨_, rfl, ?_⟩
  refine hK.out _ _ ⟨(PS.Sk.cell HP.out F0.out hg1 hg2), (PS.Sk.cell HP.out F1.out hg1 hg2), (PS.Sk.at_value HP.out).1⟩ (fun hHeld => ?_)
  clear hK K
  refine norm_ (a' := ?_) ?_ ?_
  rotate_left
  · show Act.put _ (some 32) _ = _
    simp only [Act.put, List.setIfInBounds_toArray, List.set_cons_zero, List.set_cons_succ, i64_w, i32_w]
    rfl
  refine done_ (done_of HT_.out (by as_aux_lemma => kernel_rfl)) ?_
  clear hz
  go_wp2
  have eq_ : setsR m c0 = (c3, { ({ m with addr := c0.wordV } : Msg) with value := c1.wordV }) := by
    rw [Ec3.out, Ec2.out, Ec1.out]
    rfl
  rw [eq_]
  exact bodyPost_end (results_none rfl _ _ _) rfl (⟨rfl, PS.Sk.over HP.out (HKP.out.alloc _)⟩)
theorem sets_0 {wb w0 w : World} {gr g gm : Nat} {c0 : Cu} {m : Msg} (h : PS.Sk wb w0 gr g gm w c0 m) (hg : c0.wordS.wordV ≠ 0) :
    Calls Try.prog 23 #[.agg #[.pointer (some ⟨g, 0, none⟩), .pointer (some ⟨gm, 0, none⟩)]] w fun en w' => en = .returned (.tuple #[]) ∧ PS.Sk wb w0 gr g gm w' (setsR m c0).1 (setsR m c0).2 := by
  have hlt := PS.Sk.lt h
  have HKP := Aside0.mk h.kp
  have HP := Aside0.mk (PS.Sk.start (PS.St.below h.st (below_alloc (Below.refl _ _) (.cells #[.pointer (some ⟨g, 0, none⟩), .pointer (some ⟨gm, 0, none⟩)] 50))))
  have F0 := Aside0.mk (show (w.alloc (.cells #[.pointer (some ⟨g, 0, none⟩), .pointer (some ⟨gm, 0, none⟩)] 50)).cell? ⟨w.heap.size, 0, none⟩ = some (.pointer (some ⟨g, 0, none⟩)) from (blk_cell (blk_new w (.cells #[.pointer (some ⟨g, 0, none⟩), .pointer (some ⟨gm, 0, none⟩)] 50)) 0).trans rfl)
  have F1 := Aside0.mk (show (w.alloc (.cells #[.pointer (some ⟨g, 0, none⟩), .pointer (some ⟨gm, 0, none⟩)] 50)).cell? ⟨w.heap.size, 1, none⟩ = some (.pointer (some ⟨gm, 0, none⟩)) from (blk_cell (blk_new w (.cells #[.pointer (some ⟨g, 0, none⟩), .pointer (some ⟨gm, 0, none⟩)] 50)) 1).trans rfl)
  have hg1 : w.heap.size ≠ g := by omega
  have hg2 : w.heap.size ≠ gm := by omega
  clear hlt h
  go_enter Try.func23, Try.ntmps23
  go_upto_region 1 with (fail)
  have n0_ := Aside0.mk (PS.Sk.below HP.out (below_drew (Below.refl _ _)))
  clear HP
  have HP := n0_
  clear n0_
  obtain ⟨l0, h0⟩ := Cu.wordV_bd (PS.Sk.good HP.out)
  refine start_ (n := 8) (S := fun w' => w'.cell? ⟨w.heap.size, 0, none⟩ = some (.pointer (some ⟨g, 0, none⟩)) ∧ w'.cell? ⟨w.heap.size, 1, none⟩ = some (.pointer (some ⟨gm, 0, none⟩))) (ds := []) (bm 8 0) (by as_aux_lemma => kernel_rfl) rfl (by as_aux_lemma => kernel_rfl) ⟨(PS.Sk.cell HP.out F0.out hg1 hg2), (PS.Sk.cell HP.out F1.out hg1 hg2)⟩ (fun hHeld => ?_)
  refine with_tabW sets.tab1 sets.bits1 (fun HT_ HW_ => ?_)
  refine pu_ 0 (some 2) (bm 8 1) HT_ (by as_aux_lemma => kernel_rfl) rfl rfl (fun _ _ _ h => h) (by rfl) (by intro w'; go_simp; with_reducible rfl) (by go_simp; rfl) ?_
  refine pu_ 2 (some 4) (bm 8 5) HT_ (by as_aux_lemma => kernel_rfl) rfl rfl (fun _ _ _ h => h) (by rfl) (by intro w'; go_simp; with_reducible rfl) (by go_simp; rfl) ?_
  refine tk_ 1 (some 3) (bm 8 7) HT_ HW_ hHeld (by as_aux_lemma => kernel_rfl) rfl rfl (fun _ _ _ h => h) (by rfl) (by rintro w' ⟨s0, s1⟩; go_simp; with_reducible rfl) (by go_simp; rfl) ?_
  refine tk_ 3 (some 5) (bm 8 15) HT_ HW_ hHeld (by as_aux_lemma => kernel_rfl) rfl rfl (fun _ _ _ h => h) (by rfl) (by rintro w' ⟨s0, s1⟩; go_simp; with_reducible rfl) (by go_simp; rfl) ?_
  refine one_ (i := 4) (N := some 6) (bm 8 31) rfl rfl (one_of HT_.out (by as_aux_lemma => kernel_rfl)) (by as_aux_lemma => decide) (fun K hK => ?_)
  refine goes_ Try.func46 (by as_aux_lemma => kernel_rfl) rfl #[.pointer (some ⟨g, 0, none⟩)] (by rfl) rfl rfl (by simp only [List.map_toArray, List.map_cons, List.map_nil]; rfl) ?_
  with_reducible refine (PS.Sk.word HP.out).mono ?_
  rintro en x1 ⟨rfl, hp_⟩
  obtain ⟨c1, ec_⟩ : ∃ z, z = c0.wordS := ⟨_, rfl⟩
  rw [← ec_] at hp_
  have Ec1 := Aside0.mk ec_
  clear ec_
  obtain ⟨kaddr, faddr⟩ := PS.Sk.at_addr hp_
  have n0_ := Aside0.mk hp_
  clear HP hp_
  have HP := n0_
  clear n0_
  refine ⟨_, rfl, ?_⟩
  refine hK.out _ _ ⟨(PS.Sk.cell HP.out F0.out hg1 hg2), (PS.Sk.cell HP.out F1.out hg1 hg2)⟩ (fun hHeld => ?_)
  clear hK K
  refine norm_ (a' := ?_) ?_ ?_
  rotate_left
  · show Act.put _ (some 6) _ = _
    simp only [Act.put, List.setIfInBounds_toArray, List.set_cons_zero, List.set_cons_succ, i64_w, i32_w]
    rfl
  refine pu_ 5 (some 7) (bm 8 63) HT_ (by as_aux_lemma => kernel_rfl) rfl rfl (fun _ _ _ h => h) (by rfl) (by intro w'; go_simp; with_reducible rfl) (by go_simp; rfl) ?_
  refine pu_ 6 (some 8) (bm 8 127) HT_ (by as_aux_lemma => kernel_rfl) rfl rfl (fun _ _ _ h => h) (by rfl) (by intro w'; go_simp; with_reducible rfl) (by go_simp; rfl) ?_
  refine one_ (i := 7) (N := none) (bm 8 255) rfl rfl (one_of HT_.out (by as_aux_lemma => kernel_rfl)) (by as_aux_lemma => decide) (fun K hK => ?_)
  refine skip_ (w1 := ?_) (by rfl) rfl ?_ ?_
  rotate_left
  · go_simp
    rfl
  have hp_ := HP.out.put_addr ⟨l0, h0⟩
  have n0_ := Aside0.mk hp_
  clear HP hp_
  have HP := n0_
  clear n0_
  refine hK.out _ _ ⟨(PS.Sk.cell HP.out F0.out hg1 hg2), (PS.Sk.cell HP.out F1.out hg1 hg2)⟩ (fun hHeld => ?_)
  clear hK K
  refine done_ (done_of HT_.out (by as_aux_lemma => kernel_rfl)) ?_
  clear kaddr faddr
  go_upto_region 2 with (fail)
  have n0_ := Aside0.mk (PS.Sk.below HP.out (below_drew (Below.refl _ _)))
  clear HP
  have HP := n0_
  clear n0_
  obtain ⟨l1, h1⟩ := Cu.wordV_bd (PS.Sk.good HP.out)
  refine start_ (n := 8) (S := fun w' => w'.cell? ⟨w.heap.size, 0, none⟩ = some (.pointer (some ⟨g, 0, none⟩)) ∧ w'.cell? ⟨w.heap.size, 1, none⟩ = some (.pointer (some ⟨gm, 0, none⟩))) (ds := []) (bm 8 0) (by as_aux_lemma => kernel_rfl) rfl (by as_aux_lemma => kernel_rfl) ⟨(PS.Sk.cell HP.out F0.out hg1 hg2), (PS.Sk.cell HP.out F1.out hg1 hg2)⟩ (fun hHeld => ?_)
  refine with_tabW sets.tab2 sets.bits2 (fun HT_ HW_ => ?_)
  refine pu_ 0 (some 9) (bm 8 1) HT_ (by as_aux_lemma => kernel_rfl) rfl rfl (fun _ _ _ h => h) (by rfl) (by intro w'; go_simp; with_reducible rfl) (by go_simp; rfl) ?_
  refine pu_ 2 (some 11) (bm 8 5) HT_ (by as_aux_lemma => kernel_rfl) rfl rfl (fun _ _ _ h => h) (by rfl) (by intro w'; go_simp; with_reducible rfl) (by go_simp; rfl) ?_
  refine tk_ 1 (some 10) (bm 8 7) HT_ HW_ hHeld (by as_aux_lemma => kernel_rfl) rfl rfl (fun _ _ _ h => h) (by rfl) (by rintro w' ⟨s0, s1⟩; go_simp; with_reducible rfl) (by go_simp; rfl) ?_
  refine tk_ 3 (some 12) (bm 8 15) HT_ HW_ hHeld (by as_aux_lemma => kernel_rfl) rfl rfl (fun _ _ _ h => h) (by rfl) (by rintro w' ⟨s0, s1⟩; go_simp; with_reducible rfl) (by go_simp; rfl) ?_
  refine one_ (i := 4) (N := some 13) (bm 8 31) rfl rfl (one_of HT_.out (by as_aux_lemma => kernel_rfl)) (by as_aux_lemma => decide) (fun K hK => ?_)
  refine goes_ Try.func46 (by as_aux_lemma => kernel_rfl) rfl #[.pointer (some ⟨g, 0, none⟩)] (by rfl) rfl rfl (by simp only [List.map_toArray, List.map_cons, List.map_nil]; rfl) ?_
  with_reducible refine (PS.Sk.word HP.out).mono ?_
  rintro en x2 ⟨rfl, hp_⟩
  obtain ⟨c2, ec_⟩ : ∃ z, z = c1.wordS := ⟨_, rfl⟩
  rw [← ec_] at hp_
  have Ec2 := Aside0.mk ec_
  clear ec_
  obtain ⟨kvalue, fvalue⟩ := PS.Sk.at_value hp_
  have n0_ := Aside0.mk hp_
  clear HP hp_
  have HP := n0_
  clear n0_
  refine ⟨_, rfl, ?_⟩
  refine hK.out _ _ ⟨(PS.Sk.cell HP.out F0.out hg1 hg2), (PS.Sk.cell HP.out F1.out hg1 hg2)⟩ (fun hHeld => ?_)
  clear hK K
  refine norm_ (a' := ?_) ?_ ?_
  rotate_left
  · show Act.put _ (some 13) _ = _
    simp only [Act.put, List.setIfInBounds_toArray, List.set_cons_zero, List.set_cons_succ, i64_w, i32_w]
    rfl
  refine pu_ 5 (some 14) (bm 8 63) HT_ (by as_aux_lemma => kernel_rfl) rfl rfl (fun _ _ _ h => h) (by rfl) (by intro w'; go_simp; with_reducible rfl) (by go_simp; rfl) ?_
  refine pu_ 6 (some 15) (bm 8 127) HT_ (by as_aux_lemma => kernel_rfl) rfl rfl (fun _ _ _ h => h) (by rfl) (by intro w'; go_simp; with_reducible rfl) (by go_simp; rfl) ?_
  refine one_ (i := 7) (N := none) (bm 8 255) rfl rfl (one_of HT_.out (by as_aux_lemma => kernel_rfl)) (by as_aux_lemma => decide) (fun K hK => ?_)
  refine skip_ (w1 := ?_) (by rfl) rfl ?_ ?_
  rotate_left
  · go_simp
    rfl
  have hp_ := HP.out.put_value ⟨l1, h1⟩
  have n0_ := Aside0.mk hp_
  clear HP hp_
  have HP := n0_
  clear n0_
  refine hK.out _ _ ⟨(PS.Sk.cell HP.out F0.out hg1 hg2), (PS.Sk.cell HP.out F1.out hg1 hg2)⟩ (fun hHeld => ?_)
  clear hK K
  refine done_ (done_of HT_.out (by as_aux_lemma => kernel_rfl)) ?_
  clear kvalue fvalue
  go_upto_region 3 with (fail)
  have hz : (c1.wordV == 0) = false := by rw [Ec1.out]; exact beq_eq_false_iff_ne.2 hg
  have EB := Aside0.mk (show (c1.wordV == 0 || c1.wordV == 65280) = (c1.wordV == 65280) from by rw [hz]; rfl)
  have n0_ := Aside0.mk (PS.Sk.below HP.out (below_drew (Below.refl _ _)))
  clear HP
  have HP := n0_
  clear n0_
  refine start_ (n := 17) (S := fun w' => w'.cell? ⟨w.heap.size, 0, none⟩ = some (.pointer (some ⟨g, 0, none⟩)) ∧ w'.cell? ⟨w.heap.size, 1, none⟩ = some (.pointer (some ⟨gm, 0, none⟩)) ∧ w'.cell? ⟨gm, 4, none⟩ = some (.int .u16 c1.wordV)) (ds := []) (bm 17 0) (by as_aux_lemma => kernel_rfl) rfl (by as_aux_lemma => kernel_rfl) ⟨(PS.Sk.cell HP.out F0.out hg1 hg2), (PS.Sk.cell HP.out F1.out hg1 hg2), (PS.Sk.at_value HP.out).1⟩ (fun hHeld => ?_)
  refine with_tabW sets.tab3 sets.bits3 (fun HT_ HW_ => ?_)
  refine pu_ 0 (some 16) (bm 17 1) HT_ (by as_aux_lemma => kernel_rfl) rfl rfl (fun _ _ _ h => h) (by rfl) (by intro w'; go_simp; with_reducible rfl) (by go_simp; rfl) ?_
  refine pu_ 2 (some 18) (bm 17 5) HT_ (by as_aux_lemma => kernel_rfl) rfl rfl (fun _ _ _ h => h) (by rfl) (by intro w'; go_simp; with_reducible rfl) (by go_simp; rfl) ?_
  refine tk_ 1 (some 17) (bm 17 7) HT_ HW_ hHeld (by as_aux_lemma => kernel_rfl) rfl rfl (fun _ _ _ h => h) (by rfl) (by rintro w' ⟨s0, s1, s2⟩; go_simp; with_reducible rfl) (by go_simp; rfl) ?_
  refine tk_ 3 (some 19) (bm 17 15) HT_ HW_ hHeld (by as_aux_lemma => kernel_rfl) rfl rfl (fun _ _ _ h => h) (by rfl) (by rintro w' ⟨s0, s1, s2⟩; go_simp; with_reducible rfl) (by go_simp; rfl) ?_
  refine pu_ 4 (some 20) (bm 17 31) HT_ (by as_aux_lemma => kernel_rfl) rfl rfl (fun _ _ _ h => h) (by rfl) (by intro w'; go_simp; with_reducible rfl) (by go_simp; rfl) ?_
  refine pu_ 5 (some 21) (bm 17 63) HT_ (by as_aux_lemma => kernel_rfl) rfl rfl (fun _ _ _ h => h) (by rfl) (by intro w'; go_simp; with_reducible rfl) (by go_simp; rfl) ?_
  refine tk_ 6 (some 22) (bm 17 127) HT_ HW_ hHeld (by as_aux_lemma => kernel_rfl) rfl rfl (fun _ _ _ h => h) (by rfl) (by rintro w' ⟨s0, s1, s2⟩; go_simp; with_reducible rfl) (by go_simp; rfl) ?_
  refine pu_ 7 (some 23) (bm 17 255) HT_ (by as_aux_lemma => kernel_rfl) rfl rfl (fun _ _ _ h => h) (by rfl) (by intro w'; go_simp; with_reducible rfl) (by go_simp; rfl) ?_
  refine pu_ 8 (some 24) (bm 17 511) HT_ (by as_aux_lemma => kernel_rfl) rfl rfl (fun _ _ _ h => h) (by rfl) (by intro w'; go_simp; with_reducible rfl) (by go_simp; rfl) ?_
  refine pu_ 9 (some 25) (bm 17 1023) HT_ (by as_aux_lemma => kernel_rfl) rfl rfl (fun _ _ _ h => h) (by rfl) (by intro w'; go_simp; with_reducible rfl) (by go_simp; rfl) ?_
  refine tk_ 10 (some 26) (bm 17 2047) HT_ HW_ hHeld (by as_aux_lemma => kernel_rfl) rfl rfl (fun _ _ _ h => h) (by rfl) (by rintro w' ⟨s0, s1, s2⟩; go_simp; with_reducible rfl) (by go_simp; rfl) ?_
  refine pu_ 11 (some 27) (bm 17 4095) HT_ (by as_aux_lemma => kernel_rfl) rfl rfl (fun _ _ _ h => h) (by rfl) (by intro w'; go_simp; with_reducible rfl) (by go_simp; rfl) ?_
  refine pu_ 12 (some 28) (bm 17 8191) HT_ (by as_aux_lemma => kernel_rfl) rfl rfl (fun _ _ _ h => h) (by rfl) (by intro w'; go_simp; with_reducible rfl) (by go_simp; rfl) ?_
  refine tk_ 13 (some 29) (bm 17 16383) HT_ HW_ hHeld (by as_aux_lemma => kernel_rfl) rfl rfl (fun _ _ _ h => h) (by rfl) (by rintro w' ⟨s0, s1, s2⟩; go_simp; with_reducible rfl) (by go_simp; rfl) ?_
  refine pu_ 14 (some 30) (bm 17 32767) HT_ (by as_aux_lemma => kernel_rfl) rfl rfl (fun _ _ _ h => h) (by rfl) (by intro w'; go_simp; with_reducible rfl) (by go_simp; rfl) ?_
  refine pu_ 15 (some 31) (bm 17 65535) HT_ (by as_aux_lemma => kernel_rfl) rfl rfl (fun _ _ _ h => h) (by rfl) (by intro w'; go_simp; with_reducible rfl) (by go_simp; rfl) ?_
  refine one_ (i := 16) (N := some 32) (bm 17 131071) rfl rfl (one_of HT_.out (by as_aux_lemma => kernel_rfl)) (by as_aux_lemma => decide) (fun K hK => ?_)
  refine goes_ Try.func44 (by as_aux_lemma => kernel_rfl) rfl #[.pointer (some ⟨g, 0, none⟩), .bool (c1.wordV == 65280), .int .i64 6] (by rfl) rfl rfl (by simp only [List.map_toArray, List.map_cons, List.map_nil]; rfl) ?_
  with_reducible refine (PS.Sk.need HP.out (c1.wordV == 65280) 6).mono ?_
  rintro en x3 ⟨rfl, hp_⟩
  rw [← EB.out] at hp_
  obtain ⟨c3, ec_⟩ : ∃ z, z = c2.need (c1.wordV == 0 || c1.wordV == 65280) 6 := ⟨_, rfl⟩
  rw [← ec_] at hp_
  have Ec3 := Aside0.mk ec_
  clear ec_
  have n0_ := Aside0.mk hp_
  clear HP hp_
  have HP := n0_
  clear n0_
  refine ⟨_, rfl, ?_⟩
  refine hK.out _ _ ⟨(PS.Sk.cell HP.out F0.out hg1 hg2), (PS.Sk.cell HP.out F1.out hg1 hg2), (PS.Sk.at_value HP.out).1⟩ (fun hHeld => ?_)
  clear hK K
  refine norm_ (a' := ?_) ?_ ?_
  rotate_left
  · show Act.put _ (some 32) _ = _
    simp only [Act.put, List.setIfInBounds_toArray, List.set_cons_zero, List.set_cons_succ, i64_w, i32_w]
    rfl
  refine done_ (done_of HT_.out (by as_aux_lemma => kernel_rfl)) ?_
  clear hz
  go_wp2
  have eq_ : setsR m c0 = (c3, { ({ m with addr := c0.wordV } : Msg) with value := c1.wordV }) := by
    rw [Ec3.out, Ec2.out, Ec1.out]
    rfl
  rw [eq_]
  exact bodyPost_end (results_none rfl _ _ _) rfl (⟨rfl, PS.Sk.over HP.out (HKP.out.alloc _)⟩)
theorem sets_any {wb w0 w : World} {gr g gm : Nat} {c0 : Cu} {m : Msg} (h : PS.Sk wb w0 gr g gm w c0 m) :
    Calls Try.prog 23 #[.agg #[.pointer (some ⟨g, 0, none⟩), .pointer (some ⟨gm, 0, none⟩)]] w fun en w' => en = .returned (.tuple #[]) ∧ PS.Sk wb w0 gr g gm w' (setsR m c0).1 (setsR m c0).2 := by
  by_cases hg : c0.wordS.wordV = 0
  · exact sets_1 h hg
  · exact sets_0 h hg
def smany.T3 : Bool × List (List Nat × List Nat) := (true, [([], []), ([0], [0]), ([], []), ([], []), ([3], [3]), ([4], [4]), ([5], [5]), ([6], [6]), ([7], [7]), ([8], [8]), ([2, 9], [2, 9]), ([1, 10, 9], [1, 10])])
def smany.B3 : List Nat := [0, 1, 0, 0, 8, 24, 56, 120, 248, 504, 1020, 2047]
theorem smany.tab3 : rtab .any (opsOf Try.f24 3) = smany.T3 := by kernel_rfl
theorem smany.bits3 : waitsOk smany.T3.2 smany.B3 = true := by kernel_rfl
def smany.T4 : Bool × List (List Nat × List Nat) := (true, [([], []), ([0], [0]), ([], []), ([1, 2], [1, 2]), ([], []), ([4], [4]), ([5], [5]), ([6], [6]), ([7], [7]), ([8], [8]), ([3, 9, 3], [3, 9]), ([10], [10]), ([11], [11]), ([11], [11]), ([12, 10, 0, 1, 2, 3, 4, 5, 6, 7, 8, 9, 10, 11, 12], [12]), ([13, 14, 0, 1, 2, 3, 4, 5, 6, 7, 8, 9, 10, 11, 12, 13, 14], [13])])
def smany.B4 : List Nat := [0, 1, 0, 7, 0, 16, 48, 112, 240, 496, 1023, 2047, 4095, 4095, 8191, 32767]
theorem smany.tab4 : rtab .any (opsOf Try.f24 4) = smany.T4 := by kernel_rfl
theorem smany.bits4 : waitsOk smany.T4.2 smany.B4 = true := by kernel_rfl
theorem unpack_c {A : Option Addr} {c : Nat} {l : List Int} {n : Int} {w : World} (hr : Kd.C (Kd.int .u8) w A l.length l) (hc : l.length ≤ c) (hb : isBytes l) (hl : l.length ≤ 1000000) (hn : 0 ≤ n ∧ n < 65536) :
    Calls Try.prog 48 #[.slice A l.length c, .int .i64 n] w fun en w' => ∃ A' c', en = .returned (.tuple #[.slice A' (unpackR l n).1.length c', .bool (unpackR l n).2]) ∧ (unpackR l n).1.length ≤ c' ∧ (∀ W', Kept w' W' (fun k => k < w.heap.size) → Kd.C Kd.bool W' A' (unpackR l n).1.length (unpackR l n).1) ∧ Below w.heap.size w w' := by
  obtain ⟨k, hk⟩ := (unpack_ev l n hb hl (by omega) (by omega)).rounds
  refine (bits_Unpack.calls k A c l n _ _ w hr hc hk).mono ?_
  rintro en w' ⟨v, rfl, R, B⟩
  obtain ⟨A', c', rfl, hz, _⟩ := Kd.R_reads R
  refine ⟨A', c', rfl, hz, fun W' hk => ?_, B⟩
  obtain ⟨A2, c2, e2, _, h2⟩ := Kd.R_reads (Kd.R_move (Kd.R_bound R) (fun j hj => hk.2 j hj.2.2.1 (by have := hj.2.1; omega)))
  injection e2 with e3 e4 e5
  rw [e3]
  exact h2
theorem many_c {n : Int} (hn : 0 ≤ n ∧ n < 65536) (w : World) : Calls Try.prog 47 #[.int .i64 n] w fun en w' => en = .returned (.int .i64 (bytesN n.toNat)) ∧ Below w.heap.size w w' := by
  refine (bits_Many.calls _ _ w (many_int n (by omega) (by omega))).mono ?_
  rintro e w' ⟨rfl, n, rfl⟩
  exact ⟨rfl, pw_below_drewN (Below.refl _ _) _⟩
theorem setsMany_any {wb w0 w : World} {gr g gm : Nat} {c0 : Cu} {m : Msg} (h : PS.Sk wb w0 gr g gm w c0 m) :
    Calls Try.prog 24 #[.agg #[.pointer (some ⟨g, 0, none⟩), .pointer (some ⟨gm, 0, none⟩)]] w fun en w' => en = .returned (.tuple #[]) ∧ PS.Sk wb w0 gr g gm w' (manyR m c0).1 (manyR m c0).2 := by
  have hlt := PS.Sk.lt h
  have HKP := Aside0.mk h.kp
  have HP := Aside0.mk (PS.Sk.start (PS.St.below h.st (below_alloc (Below.refl _ _) (.cells #[.pointer (some ⟨g, 0, none⟩), .pointer (some ⟨gm, 0, none⟩)] 50))))
  have F0 := Aside0.mk (show (w.alloc (.cells #[.pointer (some ⟨g, 0, none⟩), .pointer (some ⟨gm, 0, none⟩)] 50)).cell? ⟨w.heap.size, 0, none⟩ = some (.pointer (some ⟨g, 0, none⟩)) from (blk_cell (blk_new w (.cells #[.pointer (some ⟨g, 0, none⟩), .pointer (some ⟨gm, 0, none⟩)] 50)) 0).trans rfl)
  have F1 := Aside0.mk (show (w.alloc (.cells #[.pointer (some ⟨g, 0, none⟩), .pointer (some ⟨gm, 0, none⟩)] 50)).cell? ⟨w.heap.size, 1, none⟩ = some (.pointer (some ⟨gm, 0, none⟩)) from (blk_cell (blk_new w (.cells #[.pointer (some ⟨g, 0, none⟩), .pointer (some ⟨gm, 0, none⟩)] 50)) 1).trans rfl)
  have hg1 : w.heap.size ≠ g := by omega
  have hg2 : w.heap.size ≠ gm := by omega
  clear hlt h
  go_enter Try.func24, Try.ntmps24
  have qF0 := PS.Sk.cell HP.out F0.out hg1 hg2
  have qF1 := PS.Sk.cell HP.out F1.out hg1 hg2
  go_upto_region 2 with (first | (go_at_call 25; (with_reducible refine (done_any HP.out).mono ?_); rintro en x80 ⟨rfl, hp_⟩; obtain ⟨z1, ez_⟩ : ∃ z, z = spanR 1968 m c0 := ⟨_, rfl⟩; rw [← ez_] at hp_; obtain ⟨c1, m1⟩ := z1; have EZ := Aside0.mk ez_; clear ez_; have n0_ := Aside0.mk hp_; clear HP hp_; have HP := n0_; clear n0_))
  clear qF0 qF1
  replace HP : Aside0 (PS.Sk _ w0 gr g gm x80 c1 m1) := HP
  obtain ⟨bc0, bc1⟩ := (goodM_num (PS.Sk.msg HP.out)).1.2.2.2.1
  have qF0 := PS.Sk.cell HP.out F0.out hg1 hg2
  go_upto_region 3 with (first | (go_at_call 43; obtain ⟨l1, h1⟩ := Cu.byteV_bd (PS.Sk.good HP.out); (with_reducible refine (PS.Sk.byte HP.out).mono ?_); rintro en x1 ⟨rfl, hp_⟩; obtain ⟨c2, ec_⟩ : ∃ z, z = c1.byteS := ⟨_, rfl⟩; rw [← ec_] at hp_; have Ec2 := Aside0.mk ec_; clear ec_; have n0_ := Aside0.mk hp_; clear HP hp_; have HP := n0_; clear n0_))
  clear qF0
  have wk2 : IntKind.i64.wrap c1.byteV = c1.byteV := by rw [i64_w]; exact wrap64_id (by omega) (by omega)
  have wk3 : IntKind.i64.wrap m1.count = m1.count := by rw [i64_w]; exact wrap64_id (by omega) (by omega)
  have wk4 := wrap64_id (x := c1.byteV) (by omega) (by omega)
  have wk5 := wrap64_id (x := m1.count) (by omega) (by omega)
  have n0_ := Aside0.mk (PS.Sk.below HP.out (below_drew (Below.refl _ _)))
  clear HP
  have HP := n0_
  clear n0_
  refine start_ (n := 12) (S := fun w' => w'.cell? ⟨w.heap.size, 0, none⟩ = some (.pointer (some ⟨g, 0, none⟩)) ∧ w'.cell? ⟨w.heap.size, 1, none⟩ = some (.pointer (some ⟨gm, 0, none⟩)) ∧ w'.cell? ⟨gm, 3, none⟩ = some (.int .u16 m1.count)) (ds := []) (bm 12 0) (by as_aux_lemma => kernel_rfl) rfl (by as_aux_lemma => kernel_rfl) ⟨(PS.Sk.cell HP.out F0.out hg1 hg2), (PS.Sk.cell HP.out F1.out hg1 hg2), (PS.Sk.at_count HP.out).1⟩ (fun hHeld => ?_)
  refine with_tabW smany.tab3 smany.bits3 (fun HT_ HW_ => ?_)
  refine pu_ 0 (some 11) (bm 12 1) HT_ (by as_aux_lemma => kernel_rfl) rfl rfl (fun _ _ _ h => h) (by rfl) (by intro w'; go_simp; with_reducible rfl) (by go_simp; rfl) ?_
  refine pu_ 2 (some 13) (bm 12 5) HT_ (by as_aux_lemma => kernel_rfl) rfl rfl (fun _ _ _ h => h) (by rfl) (by intro w'; go_simp; with_reducible rfl) (by go_simp; rfl) ?_
  refine pu_ 3 (some 14) (bm 12 13) HT_ (by as_aux_lemma => kernel_rfl) rfl rfl (fun _ _ _ h => h) (by rfl) (by intro w'; go_simp; with_reducible rfl) (by go_simp; rfl) ?_
  refine tk_ 1 (some 12) (bm 12 15) HT_ HW_ hHeld (by as_aux_lemma => kernel_rfl) rfl rfl (fun _ _ _ h => h) (by rfl) (by rintro w' ⟨s0, s1, s2⟩; go_simp; with_reducible rfl) (by go_simp; rfl) ?_
  refine tk_ 4 (some 15) (bm 12 31) HT_ HW_ hHeld (by as_aux_lemma => kernel_rfl) rfl rfl (fun _ _ _ h => h) (by rfl) (by rintro w' ⟨s0, s1, s2⟩; go_simp; with_reducible rfl) (by go_simp; rfl) ?_
  refine pu_ 5 (some 16) (bm 12 63) HT_ (by as_aux_lemma => kernel_rfl) rfl rfl (fun _ _ _ h => h) (by rfl) (by intro w'; go_simp; with_reducible rfl) (by go_simp; rfl) ?_
  refine pu_ 6 (some 17) (bm 12 127) HT_ (by as_aux_lemma => kernel_rfl) rfl rfl (fun _ _ _ h => h) (by rfl) (by intro w'; go_simp; with_reducible rfl) (by go_simp; rfl) ?_
  refine tk_ 7 (some 18) (bm 12 255) HT_ HW_ hHeld (by as_aux_lemma => kernel_rfl) rfl rfl (fun _ _ _ h => h) (by rfl) (by rintro w' ⟨s0, s1, s2⟩; go_simp; with_reducible rfl) (by go_simp; rfl) ?_
  refine pu_ 8 (some 19) (bm 12 511) HT_ (by as_aux_lemma => kernel_rfl) rfl rfl (fun _ _ _ h => h) (by rfl) (by intro w'; go_simp; with_reducible rfl) (by go_simp; rfl) ?_
  refine one_ (i := 9) (N := some 20) (bm 12 1023) rfl rfl (one_of HT_.out (by as_aux_lemma => kernel_rfl)) (by as_aux_lemma => decide) (fun K hK => ?_)
  refine goes_ Try.func47 (by as_aux_lemma => kernel_rfl) rfl #[.int .i64 m1.count] (by rfl) rfl rfl (by simp only [List.map_toArray, List.map_cons, List.map_nil]; rfl) ?_
  with_reducible refine (many_c ⟨bc0, bc1⟩ _).mono ?_
  rintro en x81 ⟨rfl, hb_⟩
  have n0_ := Aside0.mk (PS.Sk.below HP.out hb_)
  clear HP
  have HP := n0_
  clear n0_
  clear hb_
  refine ⟨_, rfl, ?_⟩
  refine hK.out _ _ ⟨(PS.Sk.cell HP.out F0.out hg1 hg2), (PS.Sk.cell HP.out F1.out hg1 hg2), (PS.Sk.at_count HP.out).1⟩ (fun hHeld => ?_)
  clear hK K
  refine norm_ (a' := ?_) ?_ ?_
  rotate_left
  · show Act.put _ (some 20) _ = _
    simp only [Act.put, List.setIfInBounds_toArray, List.set_cons_zero, List.set_cons_succ, i64_w, i32_w]
    rfl
  refine pu_ 10 (some 21) (bm 12 2047) HT_ (by as_aux_lemma => kernel_rfl) rfl rfl (fun _ _ _ h => h) (by rfl) (by intro w'; go_simp; with_reducible rfl) (by go_simp; rfl) ?_
  refine one_ (i := 11) (N := some 22) (bm 12 4095) rfl rfl (one_of HT_.out (by as_aux_lemma => kernel_rfl)) (by as_aux_lemma => decide) (fun K hK => ?_)
  refine goes_ Try.func44 (by as_aux_lemma => kernel_rfl) rfl #[.pointer (some ⟨g, 0, none⟩), .bool (c1.byteV == (bytesN m1.count.toNat : Int)), .int .i64 5] (by rfl) rfl rfl (by simp only [List.map_toArray, List.map_cons, List.map_nil]; rfl) ?_
  with_reducible refine (PS.Sk.need HP.out (c1.byteV == (bytesN m1.count.toNat : Int)) 5).mono ?_
  rintro en x2 ⟨rfl, hp_⟩
  obtain ⟨c3, ec_⟩ : ∃ z, z = c2.need (c1.byteV == (bytesN m1.count.toNat : Int)) 5 := ⟨_, rfl⟩
  rw [← ec_] at hp_
  have Ec3 := Aside0.mk ec_
  clear ec_
  have n0_ := Aside0.mk hp_
  clear HP hp_
  have HP := n0_
  clear n0_
  refine ⟨_, rfl, ?_⟩
  refine hK.out _ _ ⟨(PS.Sk.cell HP.out F0.out hg1 hg2), (PS.Sk.cell HP.out F1.out hg1 hg2), (PS.Sk.at_count HP.out).1⟩ (fun hHeld => ?_)
  clear hK K
  refine norm_ (a' := ?_) ?_ ?_
  rotate_left
  · show Act.put _ (some 22) _ = _
    simp only [Act.put, List.setIfInBounds_toArray, List.set_cons_zero, List.set_cons_succ, i64_w, i32_w]
    rfl
  refine done_ (done_of HT_.out (by as_aux_lemma => kernel_rfl)) ?_
  go_upto_region 4 with (fail)
  have HBY := Aside0.mk (Cu.bytes_bytesV (PS.Sk.good HP.out) (c1.byteV))
  have HLL := Aside0.mk (show (c3.bytesV c1.byteV).length ≤ 1000000 from by have := (PS.Sk.good HP.out).2.1; unfold Cu.bytesV; split; (rw [List.length_take]; omega); simp)
  have n0_ := Aside0.mk (PS.Sk.below HP.out (below_drew (Below.refl _ _)))
  clear HP
  have HP := n0_
  clear n0_
  refine start_ (n := 16) (S := fun w' => w'.cell? ⟨w.heap.size, 0, none⟩ = some (.pointer (some ⟨g, 0, none⟩)) ∧ w'.cell? ⟨w.heap.size, 1, none⟩ = some (.pointer (some ⟨gm, 0, none⟩)) ∧ w'.cell? ⟨gm, 3, none⟩ = some (.int .u16 m1.count)) (ds := []) (bm 16 0) (by as_aux_lemma => kernel_rfl) rfl (by as_aux_lemma => kernel_rfl) ⟨(PS.Sk.cell HP.out F0.out hg1 hg2), (PS.Sk.cell HP.out F1.out hg1 hg2), (PS.Sk.at_count HP.out).1⟩ (fun hHeld => ?_)
  refine with_tabW smany.tab4 smany.bits4 (fun HT_ HW_ => ?_)
  refine pu_ 0 (some 24) (bm 16 1) HT_ (by as_aux_lemma => kernel_rfl) rfl rfl (fun _ _ _ h => h) (by rfl) (by intro w'; go_simp; with_reducible rfl) (by go_simp; rfl) ?_
  refine pu_ 2 (some 26) (bm 16 5) HT_ (by as_aux_lemma => kernel_rfl) rfl rfl (fun _ _ _ h => h) (by rfl) (by intro w'; go_simp; with_reducible rfl) (by go_simp; rfl) ?_
  refine pu_ 4 (some 28) (bm 16 21) HT_ (by as_aux_lemma => kernel_rfl) rfl rfl (fun _ _ _ h => h) (by rfl) (by intro w'; go_simp; with_reducible rfl) (by go_simp; rfl) ?_
  refine tk_ 1 (some 25) (bm 16 23) HT_ HW_ hHeld (by as_aux_lemma => kernel_rfl) rfl rfl (fun _ _ _ h => h) (by rfl) (by rintro w' ⟨s0, s1, s2⟩; go_simp; with_reducible rfl) (by go_simp; rfl) ?_
  refine tk_ 5 (some 29) (bm 16 55) HT_ HW_ hHeld (by as_aux_lemma => kernel_rfl) rfl rfl (fun _ _ _ h => h) (by rfl) (by rintro w' ⟨s0, s1, s2⟩; go_simp; with_reducible rfl) (by go_simp; rfl) ?_
  refine pu_ 6 (some 30) (bm 16 119) HT_ (by as_aux_lemma => kernel_rfl) rfl rfl (fun _ _ _ h => h) (by rfl) (by intro w'; go_simp; with_reducible rfl) (by go_simp; rfl) ?_
  refine pu_ 7 (some 31) (bm 16 247) HT_ (by as_aux_lemma => kernel_rfl) rfl rfl (fun _ _ _ h => h) (by rfl) (by intro w'; go_simp; with_reducible rfl) (by go_simp; rfl) ?_
  refine tk_ 8 (some 32) (bm 16 503) HT_ HW_ hHeld (by as_aux_lemma => kernel_rfl) rfl rfl (fun _ _ _ h => h) (by rfl) (by rintro w' ⟨s0, s1, s2⟩; go_simp; with_reducible rfl) (by go_simp; rfl) ?_
  refine pu_ 9 (some 33) (bm 16 1015) HT_ (by as_aux_lemma => kernel_rfl) rfl rfl (fun _ _ _ h => h) (by rfl) (by intro w'; go_simp; with_reducible rfl) (by go_simp; rfl) ?_
  refine one_ (i := 3) (N := some 27) (bm 16 1023) rfl rfl (one_of HT_.out (by as_aux_lemma => kernel_rfl)) (by as_aux_lemma => decide) (fun K hK => ?_)
  refine goes_ Try.func45 (by as_aux_lemma => kernel_rfl) rfl #[.pointer (some ⟨g, 0, none⟩), .int .i64 c1.byteV] (by rfl) rfl rfl (by simp only [List.map_toArray, List.map_cons, List.map_nil]; rfl) ?_
  with_reducible refine (PS.Sk.bytes HP.out (c1.byteV)).mono ?_
  rintro en x3 ⟨A5, n5, rfl, hz_, hr_, hp_⟩
  obtain ⟨c4, ec_⟩ : ∃ z, z = c3.bytesS (c1.byteV) := ⟨_, rfl⟩
  rw [← ec_] at hp_
  have Ec4 := Aside0.mk ec_
  clear ec_
  have R5 := Aside0.mk hr_
  have R5z := Aside0.mk hz_
  clear hr_ hz_
  have n0_ := Aside0.mk hp_
  clear HP hp_
  have HP := n0_
  clear n0_
  refine ⟨_, rfl, ?_⟩
  refine hK.out _ _ ⟨(PS.Sk.cell HP.out F0.out hg1 hg2), (PS.Sk.cell HP.out F1.out hg1 hg2), (PS.Sk.at_count HP.out).1⟩ (fun hHeld => ?_)
  clear hK K
  refine norm_ (a' := ?_) ?_ ?_
  rotate_left
  · show Act.put _ (some 27) _ = _
    simp only [Act.put, List.setIfInBounds_toArray, List.set_cons_zero, List.set_cons_succ, i64_w, i32_w]
    rfl
  refine one_ (i := 10) (N := some 34) (bm 16 2047) rfl rfl (one_of HT_.out (by as_aux_lemma => kernel_rfl)) (by as_aux_lemma => decide) (fun K hK => ?_)
  refine goes_ Try.func48 (by as_aux_lemma => kernel_rfl) rfl #[.slice A5 (c3.bytesV c1.byteV).length n5, .int .i64 m1.count] (by rfl) rfl rfl (by simp only [List.map_toArray, List.map_cons, List.map_nil]; rfl) ?_
  with_reducible refine (unpack_c (R5.out _ (Kept.refl _ _)) R5z.out HBY.out HLL.out ⟨bc0, bc1⟩).mono ?_
  rintro en x82 ⟨A6, n6, rfl, hz_, hr_, hb_⟩
  have R6z := Aside0.mk hz_
  have HLT := Aside0.mk (PS.Sk.lt HP.out)
  have HGR := Aside0.mk (blk_lt HP.out.st.res)
  have n0_ := Aside0.mk (PS.Sk.below HP.out hb_)
  clear HP
  have HP := n0_
  clear n0_
  have R6 := Aside0.mk (show ∀ W', Kept x82 W' (fun k => k = g ∨ k = gm ∨ k = gr) → Kd.C Kd.bool W' A6 (unpackR (c3.bytesV c1.byteV) m1.count).1.length (unpackR (c3.bytesV c1.byteV) m1.count).1 from fun W' hk => hr_ W' (hk.mono fun k hk => by have := HLT.out; have := HGR.out; rcases hk with rfl | rfl | rfl <;> omega))
  clear hb_ hz_ hr_ HLT HGR
  refine ⟨_, rfl, ?_⟩
  refine hK.out _ _ ⟨(PS.Sk.cell HP.out F0.out hg1 hg2), (PS.Sk.cell HP.out F1.out hg1 hg2), (PS.Sk.at_count HP.out).1⟩ (fun hHeld => ?_)
  clear hK K
  refine norm_ (a' := ?_) ?_ ?_
  rotate_left
  · show Act.put _ (some 34) _ = _
    simp only [Act.put, List.setIfInBounds_toArray, List.set_cons_zero, List.set_cons_succ, i64_w, i32_w]
    rfl
  refine pu_ 11 (some 23) (bm 16 4095) HT_ (by as_aux_lemma => kernel_rfl) rfl rfl (fun _ _ _ h => h) (by rfl) (by intro w'; go_simp; with_reducible rfl) (by go_simp; rfl) ?_
  refine pu_ 12 (some 35) (bm 16 8191) HT_ (by as_aux_lemma => kernel_rfl) rfl rfl (fun _ _ _ h => h) (by rfl) (by intro w'; go_simp; with_reducible rfl) (by go_simp; rfl) ?_
  refine pu_ 13 (some 36) (bm 16 16383) HT_ (by as_aux_lemma => kernel_rfl) rfl rfl (fun _ _ _ h => h) (by rfl) (by intro w'; go_simp; with_reducible rfl) (by go_simp; rfl) ?_
  refine pu_ 14 (some 3) (bm 16 32767) HT_ (by as_aux_lemma => kernel_rfl) rfl rfl (fun _ _ _ h => h) (by rfl) (by intro w'; go_simp; with_reducible rfl) (by go_simp; rfl) ?_
  refine pu_ 15 (some 4) (bm 16 65535) HT_ (by as_aux_lemma => kernel_rfl) rfl rfl (fun _ _ _ h => h) (by rfl) (by intro w'; go_simp; with_reducible rfl) (by go_simp; rfl) ?_
  refine done_ (done_of HT_.out (by as_aux_lemma => kernel_rfl)) ?_
  have HK2 := Aside0.mk HP.out.kp
  have G0 := Aside0.mk (PS.Sk.cell HP.out F0.out hg1 hg2)
  have G1 := Aside0.mk (PS.Sk.cell HP.out F1.out hg1 hg2)
  have n0_ := Aside0.mk (PS.Sk.start HP.out.st)
  clear HP F0 F1 R5 R5z HBY HLL
  have HP := n0_
  have F0 := G0
  have F1 := G1
  clear n0_ G0 G1
  have qF0 := PS.Sk.cell HP.out F0.out hg1 hg2
  go_upto_region 6 with (first | (go_at_call 44; (with_reducible refine (PS.Sk.need HP.out ((unpackR (c3.bytesV c1.byteV) m1.count).2) 6).mono ?_); rintro en x4 ⟨rfl, hp_⟩; obtain ⟨c5, ec_⟩ : ∃ z, z = c4.need ((unpackR (c3.bytesV c1.byteV) m1.count).2) 6 := ⟨_, rfl⟩; rw [← ec_] at hp_; have Ec5 := Aside0.mk ec_; clear ec_; have n0_ := Aside0.mk hp_; clear HP hp_; have HP := n0_; clear n0_))
  clear qF0
  have qF1 := PS.Sk.cell HP.out F1.out hg1 hg2
  obtain ⟨Ad, nd, kd, fd⟩ := PS.Sk.at_bits HP.out
  go_wp2
  have hp_ := HP.out.put_bits R6z.out (fun W' hk => R6.out W' ((HP.out.kp.mono (fun k hk => by rcases hk with e | e; exact .inl e; exact .inr (.inl e))).then_ hk (fun k hk => .inl hk)))
  have n0_ := Aside0.mk hp_
  clear HP hp_
  have HP := n0_
  clear n0_
  have eq_ : manyR m c0 = (c5, { m1 with bits := (unpackR (c3.bytesV c1.byteV) m1.count).1 }) := by
    have e1 : manyR m c0 = manyK m1 c1 := by
      show manyK (spanR 1968 m c0).2 (spanR 1968 m c0).1 = _
      rw [← EZ.out]
    rw [e1, Ec5.out, Ec4.out, Ec3.out, Ec2.out]
    rfl
  rw [eq_]
  exact bodyPost_end (results_none rfl _ _ _) rfl (⟨rfl, PS.Sk.over (PS.Sk.over HP.out HK2.out) (HKP.out.alloc _)⟩)
end Go.Proofs.Ytggiobdjepgkfaa.Coil
end
section
namespace Go.Proofs.Ytggiobdjepgkfaa.Coil
open Go.RowKit Go.Maps Go.Proofs.Ytggiobdjepgkfaa.P Go.Proofs.Ytggiobdjepgkfaa.E Go.Proofs.Ytggiobdjepgkfaa.Cur Go.Proofs.Ytggiobdjepgkfaa.Cu Go.Proofs.Ytggiobdjepgkfaa.Same Go.Proofs.Ytggiobdjepgkfaa.Bits Go.Proofs.YtggiobdjepgkfaaW.PrintWords Go.Proofs.YtggiobdjepgkfaaW.PrintLast Go.Proofs.YtggiobdjepgkfaaW.PrintMore
def bodyR (dir code : Int) (m : Msg) : (Cu → Cu × Msg) := if code = 1 ∨ code = 2 then (if dir = 0 then spanR 2000 m else toldR m) else if code = 5 then setsR m else if dir = 0 then manyR m else spanR 1968 m
def parse (dir code : Int) (bs : List Int) : Msg × Int :=
  if dir ≠ 0 ∧ dir ≠ 1 then (zeroM, 1) else if ¬ (code = 1 ∨ code = 2 ∨ code = 5 ∨ code = 15) then (zeroM, 4) else
  if (bodyR dir code { zeroM with code := code } (cu bs)).1.fin.e ≠ 0 then (zeroM, (bodyR dir code { zeroM with code := code } (cu bs)).1.fin.e) else ((bodyR dir code { zeroM with code := code } (cu bs)).2, 0)
def V1 (g gm : Nat) : Array Value := #[(.func (.func 21) #[.agg #[.pointer (some ⟨g, 0, none⟩), .pointer (some ⟨gm, 0, none⟩)]] #[]), (.func (.func 22) #[.agg #[.pointer (some ⟨g, 0, none⟩), .pointer (some ⟨gm, 0, none⟩)]] #[])]
def V5 (g gm : Nat) : Array Value := #[(.func (.func 23) #[.agg #[.pointer (some ⟨g, 0, none⟩), .pointer (some ⟨gm, 0, none⟩)]] #[]), (.func (.func 23) #[.agg #[.pointer (some ⟨g, 0, none⟩), .pointer (some ⟨gm, 0, none⟩)]] #[])]
def V15 (g gm : Nat) : Array Value := #[(.func (.func 24) #[.agg #[.pointer (some ⟨g, 0, none⟩), .pointer (some ⟨gm, 0, none⟩)]] #[]), (.func (.func 25) #[.agg #[.pointer (some ⟨g, 0, none⟩), .pointer (some ⟨gm, 0, none⟩)]] #[])]
def VZ : Array Value := #[.nilFunc, .nilFunc]
open Classical in
noncomputable def RV (g gm : Nat) (v : Value) : Option (DataW Unit × List MemPlace) := if v = .agg (V1 g gm) then some (.lit (.int .i64 1), []) else if v = .agg (V5 g gm) then some (.lit (.int .i64 5), []) else if v = .agg (V15 g gm) then some (.lit (.int .i64 15), []) else none
theorem RV_1 (g gm : Nat) : RV g gm (.agg (V1 g gm)) = some (.lit (.int .i64 1), []) := if_pos rfl
theorem RV_5 (g gm : Nat) : RV g gm (.agg (V5 g gm)) = some (.lit (.int .i64 5), []) := by
  unfold RV
  rw [if_neg (by simp [V1, V5]), if_pos rfl]
theorem RV_15 (g gm : Nat) : RV g gm (.agg (V15 g gm)) = some (.lit (.int .i64 15), []) := by
  unfold RV
  rw [if_neg (by simp [V1, V15]), if_neg (by simp [V5, V15]), if_pos rfl]
theorem RV_inv {g gm : Nat} {v : Value} {y : DataW Unit × List MemPlace} (h : RV g gm v = some y) : (y.1 = .lit (.int .i64 1) → v = .agg (V1 g gm)) ∧ (y.1 = .lit (.int .i64 5) → v = .agg (V5 g gm)) ∧ (y.1 = .lit (.int .i64 15) → v = .agg (V15 g gm)) := by
  unfold RV at h
  split at h
  · rename_i e; cases h; exact ⟨fun _ => e, fun e => by simp at e, fun e => by simp at e⟩
  split at h
  · rename_i e; cases h; exact ⟨fun e => by simp at e, fun _ => e, fun e => by simp at e⟩
  split at h
  · rename_i e; cases h; exact ⟨fun e => by simp at e, fun e => by simp at e, fun _ => e⟩
  · cases h
def dl (n : Int) : DataW Unit := .lit (.int .i64 n)
def D0 : DataW Unit := .map []
def D4 : DataW Unit := (((D0.put (.int .u8 1) (dl 1)).put (.int .u8 2) (dl 1)).put (.int .u8 5) (dl 5)).put (.int .u8 15) (dl 15)
theorem D4_at (c : Int) (zd : DataW Unit) : D4.atKey (.int .u8 c) zd = if c = 15 then dl 15 else if c = 5 then dl 5 else if c = 2 then dl 1 else if c = 1 then dl 1 else zd := by
  have h0 : IsMap D0 := ⟨[], rfl⟩
  have ne : ∀ a b : Int, a ≠ b → Lit.int .u8 a ≠ Lit.int .u8 b := fun a b h e => h (by injection e)
  unfold D4
  by_cases h : c = 15
  · subst h; rw [if_pos rfl]; exact atKey_put_same (((h0.put _ _).put _ _).put _ _) (by trivial) _ _
  rw [if_neg h, atKey_put_other (ne _ _ h)]
  by_cases h : c = 5
  · subst h; rw [if_pos rfl]; exact atKey_put_same ((h0.put _ _).put _ _) (by trivial) _ _
  rw [if_neg h, atKey_put_other (ne _ _ h)]
  by_cases h : c = 2
  · subst h; rw [if_pos rfl]; exact atKey_put_same (h0.put _ _) (by trivial) _ _
  rw [if_neg h, atKey_put_other (ne _ _ h)]
  by_cases h : c = 1
  · subst h; rw [if_pos rfl]; exact atKey_put_same h0 (by trivial) _ _
  rw [if_neg h, atKey_put_other (ne _ _ h)]
  rfl
theorem lawk : Keyed Try.prog 5 := int_keyed Try.underlying5
theorem zeroP (w : World) : (zeroValue 51).run Try.prog w = .ok (.agg VZ) w := by kernel_rfl
theorem look_p {g gm : Nat} {w : World} {b n : Nat} (h : w.ownsMap Try.prog 5 (RV g gm) b n D4) (c : Int) (hc : (Lit.int .u8 c).wf = true) :
    (Instr.lookup 52 (.map (some b)) (.int .u8 c) true).run Try.prog w = .ok (if c = 1 ∨ c = 2 then .tuple #[.agg (V1 g gm), .bool true] else if c = 5 then .tuple #[.agg (V5 g gm), .bool true] else if c = 15 then .tuple #[.agg (V15 g gm), .bool true] else .tuple #[.agg VZ, .bool false]) w := by
  obtain ⟨es, clock, hb, F, _, hD⟩ := h
  rcases fit_look true lawk Try.underlying52 (zeroP _) hb F (keyOf_int_mk Try.underlying5 hc) with ⟨hrun, _, hat⟩ | ⟨e0, y, _, _, hrun, hRv, hat, _⟩
  · rw [if_pos rfl] at hrun
    rw [hrun]
    have ha := hat (dl 77)
    rw [← hD, D4_at] at ha
    have n15 : ¬ c = 15 := fun e => by rw [if_pos e] at ha; simp [dl] at ha
    rw [if_neg n15] at ha
    have n5 : ¬ c = 5 := fun e => by rw [if_pos e] at ha; simp [dl] at ha
    rw [if_neg n5] at ha
    have n2 : ¬ c = 2 := fun e => by rw [if_pos e] at ha; simp [dl] at ha
    rw [if_neg n2] at ha
    have n1 : ¬ c = 1 := fun e => by rw [if_pos e] at ha; simp [dl] at ha
    rw [if_neg (show ¬ (c = 1 ∨ c = 2) by omega), if_neg n5, if_neg n15]
  · rw [if_pos rfl] at hrun
    rw [hrun]
    have R := RV_inv hRv
    have ha := hat (dl 77)
    have hb := hat (dl 78)
    rw [← hD, D4_at] at ha hb
    by_cases h15 : c = 15
    · rw [if_pos h15] at ha
      rw [if_neg (show ¬ (c = 1 ∨ c = 2) by omega), if_neg (show ¬ c = 5 by omega), if_pos h15, R.2.2 ha.symm]
    rw [if_neg h15] at ha hb
    by_cases h5 : c = 5
    · rw [if_pos h5] at ha
      rw [if_neg (show ¬ (c = 1 ∨ c = 2) by omega), if_pos h5, R.2.1 ha.symm]
    rw [if_neg h5] at ha hb
    by_cases h2 : c = 2
    · rw [if_pos h2] at ha
      rw [if_pos (show c = 1 ∨ c = 2 from .inr h2), R.1 ha.symm]
    rw [if_neg h2] at ha hb
    by_cases h1 : c = 1
    · rw [if_pos h1] at ha
      rw [if_pos (show c = 1 ∨ c = 2 from .inl h1), R.1 ha.symm]
    rw [if_neg h1] at ha hb
    exact absurd (ha.trans hb.symm) (by simp [dl])
theorem ev_insert {H : Type} {P : Program} (w : World) {ops : Array Oper} {rest : List Oper} {o : Oper} {a : Act} {Q : Exit → Act → World → Prop}
    (hg : o.guard = none) (m x v : Operand) (t : TypeId) (hop : o.op = Op.insert t m x v)
    (k e : TypeId) (K : Keyed P k) (ht : P.underlying t = some (.map k e)) (R : Value → Option (DataW H × List MemPlace)) (b n : Nat) (D : DataW H)
    (hm : a.eval m = .map (some b)) (hown : w.ownsMap P k R b n D) (hn : n < maxLen) (key val : Value) (kl : Lit) (hx : a.eval x = key) (hv : a.eval v = val) (hkey : keyOf P k key = some kl)
    (d : DataW H) (ps : List MemPlace) (hval : R val = some (d, ps))
    (hK : ∀ w', w'.ownsMap P k R b (n + 1) (D.put kl d) → w.grownBy w' (some b) → wpList P ops Q rest (a.put o.dst undef) w') :
    wpList P ops Q (o :: rest) a w := by
  refine wpList_plain hg fun K' hK' => ?_
  obtain ⟨w', hrun, r1, r2⟩ := hown.update K ht hn hkey hval
  unfold Oper.wp
  simp [execOp, hop, hm, hx, hv, hrun, Result.andThen]
  exact hK' _ _ (hK w' r1 r2)
theorem ev_var2 {ops : Array Oper} {rest : List Oper} {o1 o2 : Oper} {a : Act} {w : World} {Q : Exit → Act → World → Prop} {x y : Operand} {cx zc : Array Value} (ty : TypeId)
    (hal : ∀ W, (execOp a.eval o1).run Try.prog W = .ok (.value (.pointer (some ⟨W.heap.size, 0, none⟩))) (W.alloc (.cells zc ty (0, 0)))) (hg1 : o1.guard = none) (ho2 : o2.op = .store ty x y) (hg2 : o2.guard = none) (hd2 : o2.dst = none) (hs : zc.size = cx.size) (hi : (Try.prog.info? ty).map (·.size) = some cx.size) (h1 : cx.all (·.oneCell') = true)
    (hx : (a.put o1.dst (.pointer (some ⟨w.heap.size, 0, none⟩))).eval x = .pointer (some ⟨w.heap.size, 0, none⟩)) (hy : (a.put o1.dst (.pointer (some ⟨w.heap.size, 0, none⟩))).eval y = .agg cx)
    (h : ∀ g w', g = w.heap.size → w'.heap[g]? = some (.cells cx ty (0, 0)) → Below w.heap.size w w' → wpList Try.prog ops Q rest (a.put o1.dst (.pointer (some ⟨g, 0, none⟩))) w') : wpList Try.prog ops Q (o1 :: o2 :: rest) a w := by
  refine Kd.event_run hg1 (hal w) ?_
  refine Same.wpList_store_row ty x y ho2 hg2 hx hy (blk_new w _) hs hi h1 (fun w' h1 h2 => ?_)
  rw [hd2]
  exact h _ w' rfl h1 ((below_alloc (Below.refl _ _) _).trans ((h2.below (Nat.le_refl _) (by simp)).mono (by simp)))
theorem run_alloc_form (ev : Operand → Value) (o : Oper) (ho : o.op = .alloc 50) (W : World) : (execOp ev o).run Try.prog W = .ok (.value (.pointer (some ⟨W.heap.size, 0, none⟩))) (W.alloc (.cells #[.pointer none, .pointer none] 50)) := by
  unfold execOp
  rw [ho]
  kernel_rfl
theorem run_alloc_pair (ev : Operand → Value) (o : Oper) (ho : o.op = .alloc 51) (W : World) : (execOp ev o).run Try.prog W = .ok (.value (.pointer (some ⟨W.heap.size, 0, none⟩))) (W.alloc (.cells VZ 51)) := by
  unfold execOp
  rw [ho]
  kernel_rfl
theorem St_first {w0 w1 w2 w3 : World} {gr gm g : Nat} {cx : Array Value} {m : Msg} {c : Cu} (hg : gr = w0.heap.size) (hk : w1.heap[gr]? = some (.cells zeroC 30 (0, 0))) (hb : Below w0.heap.size w0 w1) (hm : gm = w1.heap.size) (hk2 : w2.heap[gm]? = some (.cells cx 30 (0, 0))) (hb2 : Below w1.heap.size w1 w2) (M : ∀ W, IsMsg W cx m) (nl : NilL cx)
    (h1 : w2.heap.size ≤ g) (hc : PAt w2.heap.size g w3 g c) (h2 : Below w2.heap.size w2 w3) : PS.St w0 gr g gm w3 c m := by
  have l1 := blk_lt hk
  have l2 := blk_lt hk2
  have s0 := hb.size
  have s1 := hb2.size
  exact ⟨hb.trans ((hb2.mono hb.size).trans (h2.mono (Nat.le_trans hb.size hb2.size))), ⟨w2.heap.size, g, hc, .inl l2, .inl (by omega)⟩, ⟨cx, blk_below hk2 h2, fun W' _ => M W'⟩, blk_below (blk_below hk hb2) h2, ⟨by omega, by omega, by omega⟩, ⟨by omega, by omega, by omega⟩, ⟨cx, blk_below hk2 h2, nl⟩⟩
theorem parse_dir {A : Option Addr} {c : Nat} {l : List Int} {w0 : World} (hr : Kd.C (Kd.int .u8) w0 A l.length l) (hc : l.length ≤ c) (hs : l.length ≤ 1000000) (hb : isBytes l) {dir code : Int} (h0 : dir ≠ 0) (h1 : dir ≠ 1) :
    Calls Try.prog 13 #[.int .i64 dir, .int .u8 code, .slice A l.length c] w0 fun en w' => ∃ cx, en = .returned (.tuple #[.agg cx, .int .i64 1]) ∧ IsMsg w' cx zeroM ∧ Below w0.heap.size w0 w' := by
  clear hr hc hs hb
  have H := Aside0.mk (Held.start w0)
  have e0 : (dir != 0) = true := by simpa using h0
  have e1 : (dir != 1) = true := by simpa using h1
  have e0' : (dir == 0) = false := by simpa using h0
  have e1' : (dir == 1) = false := by simpa using h1
  clear h0 h1
  go_enter Try.func13, Try.ntmps13
  go_wp2_with (first | ((with_reducible refine gate_dst (N := 6) rfl ?_); refine ev_alloc rfl rfl ?_; intro g w1 hg_ h1_ h2_; have n0_ := Aside0.mk (H.out.new hg_ h1_ h2_); clear H; have H := n0_; clear n0_; clear h1_ h2_ hg_) | ((with_reducible refine gate_dst (N := 20) rfl ?_); refine ev_build (zeroC) rfl (by go_simp; first | rfl | done) ?_; intro cx hcx_; have M := Aside0.mk (show ∀ W, IsMsg W cx _ from fun W => by rw [hcx_]; exact zero_is W); clear hcx_) | ((with_reducible refine gate_op (u := .store 30 (.tmp 6) (.tmp 20)) rfl ?_); refine ev_store rfl rfl rfl rfl H.out (i := 0) rfl (rfl) (M.out w0) ?_; intro w2 h3_ h4_; have n0_ := Aside0.mk (h3_); clear H; have H := n0_; clear n0_; clear h3_ h4_))
  refine bodyPost_ret (results_ct rfl _ _ g 30 cx (0, 0) _ rfl (H.out.at 0 rfl) Try.underlying30 rfl (msg_info ((M.out w0).size))) rfl (⟨cx, rfl, M.out _, H.out.b⟩)
theorem parse_no0 {A : Option Addr} {c : Nat} {l : List Int} {w0 : World} (hr : Kd.C (Kd.int .u8) w0 A l.length l) (hc : l.length ≤ c) (hs : l.length ≤ 1000000) (hb : isBytes l) {code : Int} (hcd : 0 ≤ code ∧ code < 256) (hk : ¬ (code = 1 ∨ code = 2 ∨ code = 5 ∨ code = 15)) :
    Calls Try.prog 13 #[.int .i64 0, .int .u8 code, .slice A l.length c] w0 fun en w' => ∃ cx, en = .returned (.tuple #[.agg cx, .int .i64 4]) ∧ IsMsg w' cx zeroM ∧ Below w0.heap.size w0 w' := by
  have HR := Aside0.mk hr
  have HC := Aside0.mk hc
  have HS := Aside0.mk hs
  have HBB := Aside0.mk hb
  clear hr hc hs hb
  have hmm := @run_makeMap Try.prog
  have HKB := Aside0.mk hcd
  clear hcd
  have HKN := Aside0.mk hk
  clear hk
  go_enter Try.func13, Try.ntmps13
  go_upto_region 3 with (first | ((with_reducible refine gate_dst (N := 6) rfl ?_); refine ev_alloc rfl rfl ?_; intro gr w1 hg_ h1_ h2_; have HG := Aside0.mk hg_; have H1 := Aside0.mk h1_; have H2 := Aside0.mk h2_; clear hg_ h1_ h2_))
  go_upto_region 4 with (first | ((with_reducible refine gate_dst (N := 22) rfl ?_); refine ev_build ((zeroC.setIfInBounds 0 (.int .u8 (code)))) rfl (by go_simp; first | rfl | done) ?_; intro cx hcx_; have M := Aside0.mk (show ∀ W, IsMsg W cx _ from fun W => by rw [hcx_]; exact (fun W => set_code (zero_is W) (v := code) ⟨by have := HKB.out; omega, by have := HKB.out; omega⟩) W); have NL := Aside0.mk (show NilL cx by rw [hcx_]; exact PS.zero_nil.set (by decide)); clear hcx_) | ((with_reducible refine gate_dst (N := 8) rfl ?_); refine ev_var (y := .tmp 22) rfl rfl rfl rfl rfl (M.out w0) rfl rfl ?_; intro gm w2 hg_ h1_ hb_; have HM1 := Aside0.mk hg_; have HM2 := Aside0.mk h1_; have HM3 := Aside0.mk hb_; clear h1_ hb_ hg_))
  go_upto_region 5 with (first | (go_at_call 20; (with_reducible refine (p_new A c l _ (Kd.C_below HR.out (H2.out.trans (HM3.out.mono H2.out.size))) HC.out HS.out HBB.out).mono ?_); rintro en w3 ⟨g, rfl, q1_, q2_, q3_, q4_⟩; have HP := Aside0.mk (St_first HG.out H1.out H2.out HM1.out HM2.out HM3.out M.out NL.out q1_ q2_ q3_); clear q1_ q2_ q3_ q4_ H1 H2 HG HM1 HM2 HM3) | ((with_reducible refine gate_dst (N := 9) rfl ?_); refine ev_var2 (y := .tmp 25) (cx := #[.pointer (some ⟨g, 0, none⟩), .pointer (some ⟨gm, 0, none⟩)]) (zc := #[.pointer none, .pointer none]) 50 (fun W => run_alloc_form _ _ rfl W) rfl rfl rfl rfl rfl (by kernel_rfl) (by simp [Value.oneCell']) rfl rfl ?_; intro gf w4 hg_ h1_ hb_; have hl_ := PS.Sk.lt (PS.Sk.start HP.out); have HF1 := Aside0.mk (show gf ≠ g from by omega); have HF2 := Aside0.mk (show gf ≠ gm from by omega); have HFB := Aside0.mk h1_; have n0_ := Aside0.mk (PS.St.below HP.out hb_); clear HP; have HP := n0_; clear n0_ h1_ hb_ hg_ hl_))
  have k0 : w4.cell? ⟨gf, 0, none⟩ = some (.pointer (some ⟨g, 0, none⟩)) := (blk_cell HFB.out 0).trans rfl
  have k1 : w4.cell? ⟨gf, 1, none⟩ = some (.pointer (some ⟨gm, 0, none⟩)) := (blk_cell HFB.out 1).trans rfl
  have O : Aside0 ((w4.alloc (.map #[] 0)).ownsMap Try.prog 5 (RV g gm) w4.heap.size 0 D0) := ⟨World.ownsMap_made _ _ _ _⟩
  have HB := Aside0.mk ((Below.refl w4.heap.size w4).alloc (Nat.le_refl _) (.map #[] 0))
  replace k0 : (w4.alloc (.map #[] 0)).cell? ⟨gf, 0, none⟩ = some (.pointer (some ⟨g, 0, none⟩)) := (blk_cell (blk_below HFB.out HB.out) 0).trans rfl
  replace k1 : (w4.alloc (.map #[] 0)).cell? ⟨gf, 1, none⟩ = some (.pointer (some ⟨gm, 0, none⟩)) := (blk_cell (blk_below HFB.out HB.out) 1).trans rfl
  go_upto_region 6 with (first | ((with_reducible refine gate_op (u := .insert 52 (.tmp 26) (.const (.int .u8 1)) (.tmp 31)) rfl ?_); refine ev_insert _ rfl _ _ _ 52 rfl 5 51 lawk Try.underlying52 (RV g gm) w4.heap.size 0 _ rfl O.out (by unfold maxLen; omega) _ (.agg (V1 g gm)) _ rfl rfl (keyOf_int_mk Try.underlying5 (by decide)) _ [] (RV_1 g gm) ?_; intro x0 o_ g_; have n0_ := Aside0.mk o_; have n1_ := Aside0.mk (HB.out.grown g_ HB.out.size (fun j hj => by cases hj; exact Nat.le_refl _)); clear O HB o_ g_; have O := n0_; have HB := n1_; clear n0_ n1_; have k0 : x0.cell? ⟨gf, 0, none⟩ = some (.pointer (some ⟨g, 0, none⟩)) := (blk_cell (blk_below HFB.out HB.out) 0).trans rfl; have k1 : x0.cell? ⟨gf, 1, none⟩ = some (.pointer (some ⟨gm, 0, none⟩)) := (blk_cell (blk_below HFB.out HB.out) 1).trans rfl) | ((with_reducible refine gate_op (u := .insert 52 (.tmp 26) (.const (.int .u8 2)) (.tmp 36)) rfl ?_); refine ev_insert _ rfl _ _ _ 52 rfl 5 51 lawk Try.underlying52 (RV g gm) w4.heap.size 1 _ rfl O.out (by unfold maxLen; omega) _ (.agg (V1 g gm)) _ rfl rfl (keyOf_int_mk Try.underlying5 (by decide)) _ [] (RV_1 g gm) ?_; intro x1 o_ g_; have n0_ := Aside0.mk o_; have n1_ := Aside0.mk (HB.out.grown g_ HB.out.size (fun j hj => by cases hj; exact Nat.le_refl _)); clear O HB o_ g_; have O := n0_; have HB := n1_; clear n0_ n1_; have k0 : x1.cell? ⟨gf, 0, none⟩ = some (.pointer (some ⟨g, 0, none⟩)) := (blk_cell (blk_below HFB.out HB.out) 0).trans rfl; have k1 : x1.cell? ⟨gf, 1, none⟩ = some (.pointer (some ⟨gm, 0, none⟩)) := (blk_cell (blk_below HFB.out HB.out) 1).trans rfl) | ((with_reducible refine gate_op (u := .insert 52 (.tmp 26) (.const (.int .u8 5)) (.tmp 41)) rfl ?_); refine ev_insert _ rfl _ _ _ 52 rfl 5 51 lawk Try.underlying52 (RV g gm) w4.heap.size 2 _ rfl O.out (by unfold maxLen; omega) _ (.agg (V5 g gm)) _ rfl rfl (keyOf_int_mk Try.underlying5 (by decide)) _ [] (RV_5 g gm) ?_; intro x2 o_ g_; have n0_ := Aside0.mk o_; have n1_ := Aside0.mk (HB.out.grown g_ HB.out.size (fun j hj => by cases hj; exact Nat.le_refl _)); clear O HB o_ g_; have O := n0_; have HB := n1_; clear n0_ n1_; have k0 : x2.cell? ⟨gf, 0, none⟩ = some (.pointer (some ⟨g, 0, none⟩)) := (blk_cell (blk_below HFB.out HB.out) 0).trans rfl; have k1 : x2.cell? ⟨gf, 1, none⟩ = some (.pointer (some ⟨gm, 0, none⟩)) := (blk_cell (blk_below HFB.out HB.out) 1).trans rfl) | ((with_reducible refine gate_op (u := .insert 52 (.tmp 26) (.const (.int .u8 15)) (.tmp 46)) rfl ?_); refine ev_insert _ rfl _ _ _ 52 rfl 5 51 lawk Try.underlying52 (RV g gm) w4.heap.size 3 _ rfl O.out (by unfold maxLen; omega) _ (.agg (V15 g gm)) _ rfl rfl (keyOf_int_mk Try.underlying5 (by decide)) _ [] (RV_15 g gm) ?_; intro x3 o_ g_; have n0_ := Aside0.mk o_; have n1_ := Aside0.mk (HB.out.grown g_ HB.out.size (fun j hj => by cases hj; exact Nat.le_refl _)); clear O HB o_ g_; have O := n0_; have HB := n1_; clear n0_ n1_; have k0 : x3.cell? ⟨gf, 0, none⟩ = some (.pointer (some ⟨g, 0, none⟩)) := (blk_cell (blk_below HFB.out HB.out) 0).trans rfl; have k1 : x3.cell? ⟨gf, 1, none⟩ = some (.pointer (some ⟨gm, 0, none⟩)) := (blk_cell (blk_below HFB.out HB.out) 1).trans rfl))
  clear k0 k1
  have HKW := Aside0.mk (show (Lit.int .u8 (code)).wf = true from by have := HKB.out; simp [Lit.wf, IntKind.min, IntKind.max, IntKind.signed, IntKind.bits]; omega)
  have lk : (Instr.lookup 52 (.map (some w4.heap.size)) (.int .u8 (code)) true).run Try.prog x3 = .ok (.tuple #[.agg (VZ), .bool false]) x3 := by
    have h := look_p O.out (code) HKW.out
    rw [if_neg (by have := HKN.out; omega), if_neg (by have := HKN.out; omega), if_neg (by have := HKN.out; omega)] at h
    exact h
  have n0_ := Aside0.mk (PS.St.below HP.out HB.out)
  have n1_ := Aside0.mk (blk_below HFB.out HB.out)
  clear HP HFB HB O
  have HP := n0_
  have HFB := n1_
  clear n0_ n1_
  go_upto_region 7 with (first | ((with_reducible refine gate_dst (N := 11) rfl ?_); refine ev_var2 (y := .tmp 52) (cx := VZ) (zc := VZ) 51 (fun W => run_alloc_pair _ _ rfl W) rfl rfl rfl rfl rfl (by kernel_rfl) (by simp [V1, V5, V15, VZ, Value.oneCell']) rfl rfl ?_; intro gv w5 hg_ h1_ hb_; have HVB := Aside0.mk h1_; have n0_ := Aside0.mk (PS.St.below HP.out hb_); have n1_ := Aside0.mk (blk_below HFB.out hb_); clear HP HFB; have HP := n0_; have HFB := n1_; clear n0_ n1_ h1_ hb_ hg_))
  clear lk hmm
  have H := Aside0.mk (PS.St.held HP.out)
  clear HP M NL
  go_wp2_with (first | ((with_reducible refine gate_dst (N := 56) rfl ?_); refine ev_build (zeroC) rfl (by go_simp; first | rfl | done) ?_; intro cx hcx_; have M := Aside0.mk (show ∀ W, IsMsg W cx _ from fun W => by rw [hcx_]; exact zero_is W); clear hcx_) | ((with_reducible refine gate_op (u := .store 30 (.tmp 6) (.tmp 56)) rfl ?_); refine ev_store rfl rfl rfl rfl H.out (i := 0) rfl (rfl) (M.out w0) ?_; intro w99 h3_ h4_; have n0_ := Aside0.mk (h3_); clear H; have H := n0_; clear n0_; clear h3_ h4_))
  refine bodyPost_ret (results_ct rfl _ _ gr 30 _ (0, 0) _ rfl (H.out.at 0 rfl) Try.underlying30 rfl (msg_info ((M.out w0).size))) rfl (⟨_, rfl, M.out _, H.out.b⟩)
theorem parse_0_1 {A : Option Addr} {c : Nat} {l : List Int} {w0 : World} (hr : Kd.C (Kd.int .u8) w0 A l.length l) (hc : l.length ≤ c) (hs : l.length ≤ 1000000) (hb : isBytes l) :
    Calls Try.prog 13 #[.int .i64 0, .int .u8 1, .slice A l.length c] w0 fun en w' => ∃ cx, en = .returned (.tuple #[.agg cx, .int .i64 (parse 0 1 l).2]) ∧ IsMsg w' cx (parse 0 1 l).1 ∧ Below w0.heap.size w0 w' := by
  have HR := Aside0.mk hr
  have HC := Aside0.mk hc
  have HS := Aside0.mk hs
  have HBB := Aside0.mk hb
  clear hr hc hs hb
  have hmm := @run_makeMap Try.prog
  go_enter Try.func13, Try.ntmps13
  go_upto_region 3 with (first | ((with_reducible refine gate_dst (N := 6) rfl ?_); refine ev_alloc rfl rfl ?_; intro gr w1 hg_ h1_ h2_; have HG := Aside0.mk hg_; have H1 := Aside0.mk h1_; have H2 := Aside0.mk h2_; clear hg_ h1_ h2_))
  go_upto_region 4 with (first | ((with_reducible refine gate_dst (N := 22) rfl ?_); refine ev_build ((zeroC.setIfInBounds 0 (.int .u8 (1)))) rfl (by go_simp; first | rfl | done) ?_; intro cx hcx_; have M := Aside0.mk (show ∀ W, IsMsg W cx _ from fun W => by rw [hcx_]; exact (fun W => set_code (zero_is W) (v := 1) (by decide)) W); have NL := Aside0.mk (show NilL cx by rw [hcx_]; exact PS.zero_nil.set (by decide)); clear hcx_) | ((with_reducible refine gate_dst (N := 8) rfl ?_); refine ev_var (y := .tmp 22) rfl rfl rfl rfl rfl (M.out w0) rfl rfl ?_; intro gm w2 hg_ h1_ hb_; have HM1 := Aside0.mk hg_; have HM2 := Aside0.mk h1_; have HM3 := Aside0.mk hb_; clear h1_ hb_ hg_))
  go_upto_region 5 with (first | (go_at_call 20; (with_reducible refine (p_new A c l _ (Kd.C_below HR.out (H2.out.trans (HM3.out.mono H2.out.size))) HC.out HS.out HBB.out).mono ?_); rintro en w3 ⟨g, rfl, q1_, q2_, q3_, q4_⟩; have HP := Aside0.mk (St_first HG.out H1.out H2.out HM1.out HM2.out HM3.out M.out NL.out q1_ q2_ q3_); clear q1_ q2_ q3_ q4_ H1 H2 HG HM1 HM2 HM3) | ((with_reducible refine gate_dst (N := 9) rfl ?_); refine ev_var2 (y := .tmp 25) (cx := #[.pointer (some ⟨g, 0, none⟩), .pointer (some ⟨gm, 0, none⟩)]) (zc := #[.pointer none, .pointer none]) 50 (fun W => run_alloc_form _ _ rfl W) rfl rfl rfl rfl rfl (by kernel_rfl) (by simp [Value.oneCell']) rfl rfl ?_; intro gf w4 hg_ h1_ hb_; have hl_ := PS.Sk.lt (PS.Sk.start HP.out); have HF1 := Aside0.mk (show gf ≠ g from by omega); have HF2 := Aside0.mk (show gf ≠ gm from by omega); have HFB := Aside0.mk h1_; have n0_ := Aside0.mk (PS.St.below HP.out hb_); clear HP; have HP := n0_; clear n0_ h1_ hb_ hg_ hl_))
  have k0 : w4.cell? ⟨gf, 0, none⟩ = some (.pointer (some ⟨g, 0, none⟩)) := (blk_cell HFB.out 0).trans rfl
  have k1 : w4.cell? ⟨gf, 1, none⟩ = some (.pointer (some ⟨gm, 0, none⟩)) := (blk_cell HFB.out 1).trans rfl
  have O : Aside0 ((w4.alloc (.map #[] 0)).ownsMap Try.prog 5 (RV g gm) w4.heap.size 0 D0) := ⟨World.ownsMap_made _ _ _ _⟩
  have HB := Aside0.mk ((Below.refl w4.heap.size w4).alloc (Nat.le_refl _) (.map #[] 0))
  replace k0 : (w4.alloc (.map #[] 0)).cell? ⟨gf, 0, none⟩ = some (.pointer (some ⟨g, 0, none⟩)) := (blk_cell (blk_below HFB.out HB.out) 0).trans rfl
  replace k1 : (w4.alloc (.map #[] 0)).cell? ⟨gf, 1, none⟩ = some (.pointer (some ⟨gm, 0, none⟩)) := (blk_cell (blk_below HFB.out HB.out) 1).trans rfl
  go_upto_region 6 with (first | ((with_reducible refine gate_op (u := .insert 52 (.tmp 26) (.const (.int .u8 1)) (.tmp 31)) rfl ?_); refine ev_insert _ rfl _ _ _ 52 rfl 5 51 lawk Try.underlying52 (RV g gm) w4.heap.size 0 _ rfl O.out (by unfold maxLen; omega) _ (.agg (V1 g gm)) _ rfl rfl (keyOf_int_mk Try.underlying5 (by decide)) _ [] (RV_1 g gm) ?_; intro x0 o_ g_; have n0_ := Aside0.mk o_; have n1_ := Aside0.mk (HB.out.grown g_ HB.out.size (fun j hj => by cases hj; exact Nat.le_refl _)); clear O HB o_ g_; have O := n0_; have HB := n1_; clear n0_ n1_; have k0 : x0.cell? ⟨gf, 0, none⟩ = some (.pointer (some ⟨g, 0, none⟩)) := (blk_cell (blk_below HFB.out HB.out) 0).trans rfl; have k1 : x0.cell? ⟨gf, 1, none⟩ = some (.pointer (some ⟨gm, 0, none⟩)) := (blk_cell (blk_below HFB.out HB.out) 1).trans rfl) | ((with_reducible refine gate_op (u := .insert 52 (.tmp 26) (.const (.int .u8 2)) (.tmp 36)) rfl ?_); refine ev_insert _ rfl _ _ _ 52 rfl 5 51 lawk Try.underlying52 (RV g gm) w4.heap.size 1 _ rfl O.out (by unfold maxLen; omega) _ (.agg (V1 g gm)) _ rfl rfl (keyOf_int_mk Try.underlying5 (by decide)) _ [] (RV_1 g gm) ?_; intro x1 o_ g_; have n0_ := Aside0.mk o_; have n1_ := Aside0.mk (HB.out.grown g_ HB.out.size (fun j hj => by cases hj; exact Nat.le_refl _)); clear O HB o_ g_; have O := n0_; have HB := n1_; clear n0_ n1_; have k0 : x1.cell? ⟨gf, 0, none⟩ = some (.pointer (some ⟨g, 0, none⟩)) := (blk_cell (blk_below HFB.out HB.out) 0).trans rfl; have k1 : x1.cell? ⟨gf, 1, none⟩ = some (.pointer (some ⟨gm, 0, none⟩)) := (blk_cell (blk_below HFB.out HB.out) 1).trans rfl) | ((with_reducible refine gate_op (u := .insert 52 (.tmp 26) (.const (.int .u8 5)) (.tmp 41)) rfl ?_); refine ev_insert _ rfl _ _ _ 52 rfl 5 51 lawk Try.underlying52 (RV g gm) w4.heap.size 2 _ rfl O.out (by unfold maxLen; omega) _ (.agg (V5 g gm)) _ rfl rfl (keyOf_int_mk Try.underlying5 (by decide)) _ [] (RV_5 g gm) ?_; intro x2 o_ g_; have n0_ := Aside0.mk o_; have n1_ := Aside0.mk (HB.out.grown g_ HB.out.size (fun j hj => by cases hj; exact Nat.le_refl _)); clear O HB o_ g_; have O := n0_; have HB := n1_; clear n0_ n1_; have k0 : x2.cell? ⟨gf, 0, none⟩ = some (.pointer (some ⟨g, 0, none⟩)) := (blk_cell (blk_below HFB.out HB.out) 0).trans rfl; have k1 : x2.cell? ⟨gf, 1, none⟩ = some (.pointer (some ⟨gm, 0, none⟩)) := (blk_cell (blk_below HFB.out HB.out) 1).trans rfl) | ((with_reducible refine gate_op (u := .insert 52 (.tmp 26) (.const (.int .u8 15)) (.tmp 46)) rfl ?_); refine ev_insert _ rfl _ _ _ 52 rfl 5 51 lawk Try.underlying52 (RV g gm) w4.heap.size 3 _ rfl O.out (by unfold maxLen; omega) _ (.agg (V15 g gm)) _ rfl rfl (keyOf_int_mk Try.underlying5 (by decide)) _ [] (RV_15 g gm) ?_; intro x3 o_ g_; have n0_ := Aside0.mk o_; have n1_ := Aside0.mk (HB.out.grown g_ HB.out.size (fun j hj => by cases hj; exact Nat.le_refl _)); clear O HB o_ g_; have O := n0_; have HB := n1_; clear n0_ n1_; have k0 : x3.cell? ⟨gf, 0, none⟩ = some (.pointer (some ⟨g, 0, none⟩)) := (blk_cell (blk_below HFB.out HB.out) 0).trans rfl; have k1 : x3.cell? ⟨gf, 1, none⟩ = some (.pointer (some ⟨gm, 0, none⟩)) := (blk_cell (blk_below HFB.out HB.out) 1).trans rfl))
  clear k0 k1
  have HKW := Aside0.mk (show (Lit.int .u8 (1)).wf = true from by decide)
  have lk : (Instr.lookup 52 (.map (some w4.heap.size)) (.int .u8 (1)) true).run Try.prog x3 = .ok (.tuple #[.agg (V1 g gm), .bool true]) x3 := by
    have h := look_p O.out (1) HKW.out
    exact h
  have n0_ := Aside0.mk (PS.St.below HP.out HB.out)
  have n1_ := Aside0.mk (blk_below HFB.out HB.out)
  clear HP HFB HB O
  have HP := n0_
  have HFB := n1_
  clear n0_ n1_
  go_upto_region 7 with (first | ((with_reducible refine gate_dst (N := 11) rfl ?_); refine ev_var2 (y := .tmp 52) (cx := V1 g gm) (zc := VZ) 51 (fun W => run_alloc_pair _ _ rfl W) rfl rfl rfl rfl rfl (by kernel_rfl) (by simp [V1, V5, V15, VZ, Value.oneCell']) rfl rfl ?_; intro gv w5 hg_ h1_ hb_; have HVB := Aside0.mk h1_; have n0_ := Aside0.mk (PS.St.below HP.out hb_); have n1_ := Aside0.mk (blk_below HFB.out hb_); clear HP HFB; have HP := n0_; have HFB := n1_; clear n0_ n1_ h1_ hb_ hg_))
  clear lk hmm
  go_upto_region 9 with (fail)
  have kv : w5.cell? ⟨gv, 0, none⟩ = some (.func (.func 21) #[.agg #[.pointer (some ⟨g, 0, none⟩), .pointer (some ⟨gm, 0, none⟩)]] #[]) := (blk_cell HVB.out 0).trans rfl
  have n0_ := Aside0.mk (PS.Sk.start HP.out)
  clear HP
  have HP := n0_
  clear n0_
  obtain ⟨m0, hm0⟩ : ∃ z, z = ({ zeroM with code := 1 } : Msg) := ⟨_, rfl⟩
  rw [← hm0] at HP
  have HM0 := Aside0.mk hm0
  clear hm0 M NL
  go_upto_region 10 with (first | (go_at_call 21; (with_reducible refine (asksRead_any HP.out).mono ?_); rintro en w6 ⟨rfl, hp_⟩; obtain ⟨cb, e_⟩ : ∃ z, z = spanR 2000 m0 ⟨l, false, 0⟩ := ⟨_, rfl⟩; rw [← e_] at hp_; obtain ⟨c9, m9⟩ := cb; have EB := Aside0.mk e_; clear e_; have n0_ := Aside0.mk hp_; clear HP hp_; have HP := n0_; clear n0_))
  clear kv
  replace HP : Aside0 (PS.Sk w5 w0 gr g gm w6 c9 m9) := HP
  have k0 : w6.cell? ⟨gf, 0, none⟩ = some (.pointer (some ⟨g, 0, none⟩)) := (blk_cell (PS.Sk.blk HP.out HFB.out HF1.out HF2.out) 0).trans rfl
  go_upto_region 11 with (first | (go_at_call 26; (with_reducible refine (PS.Sk.fin HP.out).mono ?_); rintro en x1 ⟨rfl, hp_⟩; obtain ⟨c10, ec_⟩ : ∃ z, z = c9.fin := ⟨_, rfl⟩; rw [← ec_] at hp_; have Ec10 := Aside0.mk ec_; clear ec_; have n0_ := Aside0.mk hp_; clear HP hp_; have HP := n0_; clear n0_))
  clear k0
  have k0 : x1.cell? ⟨gf, 0, none⟩ = some (.pointer (some ⟨g, 0, none⟩)) := (blk_cell (PS.Sk.blk HP.out HFB.out HF1.out HF2.out) 0).trans rfl
  go_upto_region 12 with (first | (go_at_call 27; (with_reducible refine (PS.Sk.err HP.out).mono ?_); rintro en x2 ⟨rfl, hp_⟩; have n0_ := Aside0.mk hp_; clear HP hp_; have HP := n0_; clear n0_))
  clear k0
  have n0_ := Aside0.mk HP.out.st
  clear HP HFB HVB
  have HP := n0_
  clear n0_
  have he1 : parse 0 1 l = if c10.e ≠ 0 then (zeroM, c10.e) else (m9, 0) := by
    have e2 : bodyR 0 1 { zeroM with code := 1 } (cu l) = (c9, m9) := by rw [EB.out, HM0.out]; rfl
    unfold parse
    rw [if_neg (by decide), if_neg (by decide), e2, Ec10.out]
  by_cases h9 : c10.e = 0
  · have ex_ : parse 0 1 l = (m9, 0) := by rw [he1, if_neg (fun h => h h9)]
    have EX := Aside0.mk ex_
    have g1 : (c10.e != 0) = false := by rw [h9]; rfl
    have g2 : (c10.e == 0) = true := by rw [h9]; rfl
    clear h9 ex_ he1
    obtain ⟨cx, h_, hz_, hm_⟩ := PS.St.held2 HP.out
    have H := Aside0.mk h_
    have HZ := Aside0.mk hz_
    have HM := Aside0.mk hm_
    have HB := Aside0.mk HP.out.b
    clear h_ hz_ hm_ HP
    go_wp2_with (first | ((with_reducible refine gate_dst (N := 71) rfl ?_); refine ev_load (x := .tmp 8) rfl rfl rfl H.out (i := 1) rfl (HZ.out) ?_) | ((with_reducible refine gate_op (u := .store 30 (.tmp 6) (.tmp 71)) rfl ?_); refine ev_store rfl rfl rfl rfl H.out (i := 0) rfl rfl (HM.out _ ⟨rfl, rfl, rfl, Kept.refl _ _⟩) ?_; intro x91 h3_ h4_; have HE := Aside0.mk (HM.out _ h4_); clear h4_; have n0_ := Aside0.mk (h3_); clear H; have H := n0_; clear n0_; clear h3_))
    refine bodyPost_ret (results_ct rfl _ _ gr 30 _ (0, 0) _ rfl (H.out.at 0 rfl) Try.underlying30 rfl (msg_info (HZ.out))) rfl (by rw [EX.out]; exact ⟨_, rfl, HE.out, H.out.b⟩)
  · have ex_ : parse 0 1 l = (zeroM, c10.e) := by rw [he1, if_pos h9]
    have EX := Aside0.mk ex_
    have g1 : (c10.e != 0) = true := by simpa using h9
    have g2 : (c10.e == 0) = false := by simpa using h9
    clear h9 ex_ he1
    have H := Aside0.mk (PS.St.held HP.out)
    clear HP
    go_wp2_with (first | ((with_reducible refine gate_dst (N := 69) rfl ?_); refine ev_build (zeroC) rfl (by go_simp; first | rfl | done) ?_; intro cx hcx_; have M := Aside0.mk (show ∀ W, IsMsg W cx _ from fun W => by rw [hcx_]; exact zero_is W); clear hcx_) | ((with_reducible refine gate_op (u := .store 30 (.tmp 6) (.tmp 69)) rfl ?_); refine ev_store rfl rfl rfl rfl H.out (i := 0) rfl (rfl) (M.out w0) ?_; intro x90 h3_ h4_; have n0_ := Aside0.mk (h3_); clear H; have H := n0_; clear n0_; clear h3_ h4_))
    refine bodyPost_ret (results_ct rfl _ _ gr 30 _ (0, 0) _ rfl (H.out.at 0 rfl) Try.underlying30 rfl (msg_info ((M.out w0).size))) rfl (by rw [EX.out]; exact ⟨_, rfl, M.out _, H.out.b⟩)
theorem parse_0_2 {A : Option Addr} {c : Nat} {l : List Int} {w0 : World} (hr : Kd.C (Kd.int .u8) w0 A l.length l) (hc : l.length ≤ c) (hs : l.length ≤ 1000000) (hb : isBytes l) :
    Calls Try.prog 13 #[.int .i64 0, .int .u8 2, .slice A l.length c] w0 fun en w' => ∃ cx, en = .returned (.tuple #[.agg cx, .int .i64 (parse 0 2 l).2]) ∧ IsMsg w' cx (parse 0 2 l).1 ∧ Below w0.heap.size w0 w' := by
  have HR := Aside0.mk hr
  have HC := Aside0.mk hc
  have HS := Aside0.mk hs
  have HBB := Aside0.mk hb
  clear hr hc hs hb
  have hmm := @run_makeMap Try.prog
  go_enter Try.func13, Try.ntmps13
  go_upto_region 3 with (first | ((with_reducible refine gate_dst (N := 6) rfl ?_); refine ev_alloc rfl rfl ?_; intro gr w1 hg_ h1_ h2_; have HG := Aside0.mk hg_; have H1 := Aside0.mk h1_; have H2 := Aside0.mk h2_; clear hg_ h1_ h2_))
  go_upto_region 4 with (first | ((with_reducible refine gate_dst (N := 22) rfl ?_); refine ev_build ((zeroC.setIfInBounds 0 (.int .u8 (2)))) rfl (by go_simp; first | rfl | done) ?_; intro cx hcx_; have M := Aside0.mk (show ∀ W, IsMsg W cx _ from fun W => by rw [hcx_]; exact (fun W => set_code (zero_is W) (v := 2) (by decide)) W); have NL := Aside0.mk (show NilL cx by rw [hcx_]; exact PS.zero_nil.set (by decide)); clear hcx_) | ((with_reducible refine gate_dst (N := 8) rfl ?_); refine ev_var (y := .tmp 22) rfl rfl rfl rfl rfl (M.out w0) rfl rfl ?_; intro gm w2 hg_ h1_ hb_; have HM1 := Aside0.mk hg_; have HM2 := Aside0.mk h1_; have HM3 := Aside0.mk hb_; clear h1_ hb_ hg_))
  go_upto_region 5 with (first | (go_at_call 20; (with_reducible refine (p_new A c l _ (Kd.C_below HR.out (H2.out.trans (HM3.out.mono H2.out.size))) HC.out HS.out HBB.out).mono ?_); rintro en w3 ⟨g, rfl, q1_, q2_, q3_, q4_⟩; have HP := Aside0.mk (St_first HG.out H1.out H2.out HM1.out HM2.out HM3.out M.out NL.out q1_ q2_ q3_); clear q1_ q2_ q3_ q4_ H1 H2 HG HM1 HM2 HM3) | ((with_reducible refine gate_dst (N := 9) rfl ?_); refine ev_var2 (y := .tmp 25) (cx := #[.pointer (some ⟨g, 0, none⟩), .pointer (some ⟨gm, 0, none⟩)]) (zc := #[.pointer none, .pointer none]) 50 (fun W => run_alloc_form _ _ rfl W) rfl rfl rfl rfl rfl (by kernel_rfl) (by simp [Value.oneCell']) rfl rfl ?_; intro gf w4 hg_ h1_ hb_; have hl_ := PS.Sk.lt (PS.Sk.start HP.out); have HF1 := Aside0.mk (show gf ≠ g from by omega); have HF2 := Aside0.mk (show gf ≠ gm from by omega); have HFB := Aside0.mk h1_; have n0_ := Aside0.mk (PS.St.below HP.out hb_); clear HP; have HP := n0_; clear n0_ h1_ hb_ hg_ hl_))
  have k0 : w4.cell? ⟨gf, 0, none⟩ = some (.pointer (some ⟨g, 0, none⟩)) := (blk_cell HFB.out 0).trans rfl
  have k1 : w4.cell? ⟨gf, 1, none⟩ = some (.pointer (some ⟨gm, 0, none⟩)) := (blk_cell HFB.out 1).trans rfl
  have O : Aside0 ((w4.alloc (.map #[] 0)).ownsMap Try.prog 5 (RV g gm) w4.heap.size 0 D0) := ⟨World.ownsMap_made _ _ _ _⟩
  have HB := Aside0.mk ((Below.refl w4.heap.size w4).alloc (Nat.le_refl _) (.map #[] 0))
  replace k0 : (w4.alloc (.map #[] 0)).cell? ⟨gf, 0, none⟩ = some (.pointer (some ⟨g, 0, none⟩)) := (blk_cell (blk_below HFB.out HB.out) 0).trans rfl
  replace k1 : (w4.alloc (.map #[] 0)).cell? ⟨gf, 1, none⟩ = some (.pointer (some ⟨gm, 0, none⟩)) := (blk_cell (blk_below HFB.out HB.out) 1).trans rfl
  go_upto_region 6 with (first | ((with_reducible refine gate_op (u := .insert 52 (.tmp 26) (.const (.int .u8 1)) (.tmp 31)) rfl ?_); refine ev_insert _ rfl _ _ _ 52 rfl 5 51 lawk Try.underlying52 (RV g gm) w4.heap.size 0 _ rfl O.out (by unfold maxLen; omega) _ (.agg (V1 g gm)) _ rfl rfl (keyOf_int_mk Try.underlying5 (by decide)) _ [] (RV_1 g gm) ?_; intro x0 o_ g_; have n0_ := Aside0.mk o_; have n1_ := Aside0.mk (HB.out.grown g_ HB.out.size (fun j hj => by cases hj; exact Nat.le_refl _)); clear O HB o_ g_; have O := n0_; have HB := n1_; clear n0_ n1_; have k0 : x0.cell? ⟨gf, 0, none⟩ = some (.pointer (some ⟨g, 0, none⟩)) := (blk_cell (blk_below HFB.out HB.out) 0).trans rfl; have k1 : x0.cell? ⟨gf, 1, none⟩ = some (.pointer (some ⟨gm, 0, none⟩)) := (blk_cell (blk_below HFB.out HB.out) 1).trans rfl) | ((with_reducible refine gate_op (u := .insert 52 (.tmp 26) (.const (.int .u8 2)) (.tmp 36)) rfl ?_); refine ev_insert _ rfl _ _ _ 52 rfl 5 51 lawk Try.underlying52 (RV g gm) w4.heap.size 1 _ rfl O.out (by unfold maxLen; omega) _ (.agg (V1 g gm)) _ rfl rfl (keyOf_int_mk Try.underlying5 (by decide)) _ [] (RV_1 g gm) ?_; intro x1 o_ g_; have n0_ := Aside0.mk o_; have n1_ := Aside0.mk (HB.out.grown g_ HB.out.size (fun j hj => by cases hj; exact Nat.le_refl _)); clear O HB o_ g_; have O := n0_; have HB := n1_; clear n0_ n1_; have k0 : x1.cell? ⟨gf, 0, none⟩ = some (.pointer (some ⟨g, 0, none⟩)) := (blk_cell (blk_below HFB.out HB.out) 0).trans rfl; have k1 : x1.cell? ⟨gf, 1, none⟩ = some (.pointer (some ⟨gm, 0, none⟩)) := (blk_cell (blk_below HFB.out HB.out) 1).trans rfl) | ((with_reducible refine gate_op (u := .insert 52 (.tmp 26) (.const (.int .u8 5)) (.tmp 41)) rfl ?_); refine ev_insert _ rfl _ _ _ 52 rfl 5 51 lawk Try.underlying52 (RV g gm) w4.heap.size 2 _ rfl O.out (by unfold maxLen; omega) _ (.agg (V5 g gm)) _ rfl rfl (keyOf_int_mk Try.underlying5 (by decide)) _ [] (RV_5 g gm) ?_; intro x2 o_ g_; have n0_ := Aside0.mk o_; have n1_ := Aside0.mk (HB.out.grown g_ HB.out.size (fun j hj => by cases hj; exact Nat.le_refl _)); clear O HB o_ g_; have O := n0_; have HB := n1_; clear n0_ n1_; have k0 : x2.cell? ⟨gf, 0, none⟩ = some (.pointer (some ⟨g, 0, none⟩)) := (blk_cell (blk_below HFB.out HB.out) 0).trans rfl; have k1 : x2.cell? ⟨gf, 1, none⟩ = some (.pointer (some ⟨gm, 0, none⟩)) := (blk_cell (blk_below HFB.out HB.out) 1).trans rfl) | ((with_reducible refine gate_op (u := .insert 52 (.tmp 26) (.const (.int .u8 15)) (.tmp 46)) rfl ?_); refine ev_insert _ rfl _ _ _ 52 rfl 5 51 lawk Try.underlying52 (RV g gm) w4.heap.size 3 _ rfl O.out (by unfold maxLen; omega) _ (.agg (V15 g gm)) _ rfl rfl (keyOf_int_mk Try.underlying5 (by decide)) _ [] (RV_15 g gm) ?_; intro x3 o_ g_; have n0_ := Aside0.mk o_; have n1_ := Aside0.mk (HB.out.grown g_ HB.out.size (fun j hj => by cases hj; exact Nat.le_refl _)); clear O HB o_ g_; have O := n0_; have HB := n1_; clear n0_ n1_; have k0 : x3.cell? ⟨gf, 0, none⟩ = some (.pointer (some ⟨g, 0, none⟩)) := (blk_cell (blk_below HFB.out HB.out) 0).trans rfl; have k1 : x3.cell? ⟨gf, 1, none⟩ = some (.pointer (some ⟨gm, 0, none⟩)) := (blk_cell (blk_below HFB.out HB.out) 1).trans rfl))
  clear k0 k1
  have HKW := Aside0.mk (show (Lit.int .u8 (2)).wf = true from by decide)
  have lk : (Instr.lookup 52 (.map (some w4.heap.size)) (.int .u8 (2)) true).run Try.prog x3 = .ok (.tuple #[.agg (V1 g gm), .bool true]) x3 := by
    have h := look_p O.out (2) HKW.out
    exact h
  have n0_ := Aside0.mk (PS.St.below HP.out HB.out)
  have n1_ := Aside0.mk (blk_below HFB.out HB.out)
  clear HP HFB HB O
  have HP := n0_
  have HFB := n1_
  clear n0_ n1_
  go_upto_region 7 with (first | ((with_reducible refine gate_dst (N := 11) rfl ?_); refine ev_var2 (y := .tmp 52) (cx := V1 g gm) (zc := VZ) 51 (fun W => run_alloc_pair _ _ rfl W) rfl rfl rfl rfl rfl (by kernel_rfl) (by simp [V1, V5, V15, VZ, Value.oneCell']) rfl rfl ?_; intro gv w5 hg_ h1_ hb_; have HVB := Aside0.mk h1_; have n0_ := Aside0.mk (PS.St.below HP.out hb_); have n1_ := Aside0.mk (blk_below HFB.out hb_); clear HP HFB; have HP := n0_; have HFB := n1_; clear n0_ n1_ h1_ hb_ hg_))
  clear lk hmm
  go_upto_region 9 with (fail)
  have kv : w5.cell? ⟨gv, 0, none⟩ = some (.func (.func 21) #[.agg #[.pointer (some ⟨g, 0, none⟩), .pointer (some ⟨gm, 0, none⟩)]] #[]) := (blk_cell HVB.out 0).trans rfl
  have n0_ := Aside0.mk (PS.Sk.start HP.out)
  clear HP
  have HP := n0_
  clear n0_
  obtain ⟨m0, hm0⟩ : ∃ z, z = ({ zeroM with code := 2 } : Msg) := ⟨_, rfl⟩
  rw [← hm0] at HP
  have HM0 := Aside0.mk hm0
  clear hm0 M NL
  go_upto_region 10 with (first | (go_at_call 21; (with_reducible refine (asksRead_any HP.out).mono ?_); rintro en w6 ⟨rfl, hp_⟩; obtain ⟨cb, e_⟩ : ∃ z, z = spanR 2000 m0 ⟨l, false, 0⟩ := ⟨_, rfl⟩; rw [← e_] at hp_; obtain ⟨c9, m9⟩ := cb; have EB := Aside0.mk e_; clear e_; have n0_ := Aside0.mk hp_; clear HP hp_; have HP := n0_; clear n0_))
  clear kv
  replace HP : Aside0 (PS.Sk w5 w0 gr g gm w6 c9 m9) := HP
  have k0 : w6.cell? ⟨gf, 0, none⟩ = some (.pointer (some ⟨g, 0, none⟩)) := (blk_cell (PS.Sk.blk HP.out HFB.out HF1.out HF2.out) 0).trans rfl
  go_upto_region 11 with (first | (go_at_call 26; (with_reducible refine (PS.Sk.fin HP.out).mono ?_); rintro en x1 ⟨rfl, hp_⟩; obtain ⟨c10, ec_⟩ : ∃ z, z = c9.fin := ⟨_, rfl⟩; rw [← ec_] at hp_; have Ec10 := Aside0.mk ec_; clear ec_; have n0_ := Aside0.mk hp_; clear HP hp_; have HP := n0_; clear n0_))
  clear k0
  have k0 : x1.cell? ⟨gf, 0, none⟩ = some (.pointer (some ⟨g, 0, none⟩)) := (blk_cell (PS.Sk.blk HP.out HFB.out HF1.out HF2.out) 0).trans rfl
  go_upto_region 12 with (first | (go_at_call 27; (with_reducible refine (PS.Sk.err HP.out).mono ?_); rintro en x2 ⟨rfl, hp_⟩; have n0_ := Aside0.mk hp_; clear HP hp_; have HP := n0_; clear n0_))
  clear k0
  have n0_ := Aside0.mk HP.out.st
  clear HP HFB HVB
  have HP := n0_
  clear n0_
  have he1 : parse 0 2 l = if c10.e ≠ 0 then (zeroM, c10.e) else (m9, 0) := by
    have e2 : bodyR 0 2 { zeroM with code := 2 } (cu l) = (c9, m9) := by rw [EB.out, HM0.out]; rfl
    unfold parse
    rw [if_neg (by decide), if_neg (by decide), e2, Ec10.out]
  by_cases h9 : c10.e = 0
  · have ex_ : parse 0 2 l = (m9, 0) := by rw [he1, if_neg (fun h => h h9)]
    have EX := Aside0.mk ex_
    have g1 : (c10.e != 0) = false := by rw [h9]; rfl
    have g2 : (c10.e == 0) = true := by rw [h9]; rfl
    clear h9 ex_ he1
    obtain ⟨cx, h_, hz_, hm_⟩ := PS.St.held2 HP.out
    have H := Aside0.mk h_
    have HZ := Aside0.mk hz_
    have HM := Aside0.mk hm_
    have HB := Aside0.mk HP.out.b
    clear h_ hz_ hm_ HP
    go_wp2_with (first | ((with_reducible refine gate_dst (N := 71) rfl ?_); refine ev_load (x := .tmp 8) rfl rfl rfl H.out (i := 1) rfl (HZ.out) ?_) | ((with_reducible refine gate_op (u := .store 30 (.tmp 6) (.tmp 71)) rfl ?_); refine ev_store rfl rfl rfl rfl H.out (i := 0) rfl rfl (HM.out _ ⟨rfl, rfl, rfl, Kept.refl _ _⟩) ?_; intro x91 h3_ h4_; have HE := Aside0.mk (HM.out _ h4_); clear h4_; have n0_ := Aside0.mk (h3_); clear H; have H := n0_; clear n0_; clear h3_))
    refine bodyPost_ret (results_ct rfl _ _ gr 30 _ (0, 0) _ rfl (H.out.at 0 rfl) Try.underlying30 rfl (msg_info (HZ.out))) rfl (by rw [EX.out]; exact ⟨_, rfl, HE.out, H.out.b⟩)
  · have ex_ : parse 0 2 l = (zeroM, c10.e) := by rw [he1, if_pos h9]
    have EX := Aside0.mk ex_
    have g1 : (c10.e != 0) = true := by simpa using h9
    have g2 : (c10.e == 0) = false := by simpa using h9
    clear h9 ex_ he1
    have H := Aside0.mk (PS.St.held HP.out)
    clear HP
    go_wp2_with (first | ((with_reducible refine gate_dst (N := 69) rfl ?_); refine ev_build (zeroC) rfl (by go_simp; first | rfl | done) ?_; intro cx hcx_; have M := Aside0.mk (show ∀ W, IsMsg W cx _ from fun W => by rw [hcx_]; exact zero_is W); clear hcx_) | ((with_reducible refine gate_op (u := .store 30 (.tmp 6) (.tmp 69)) rfl ?_); refine ev_store rfl rfl rfl rfl H.out (i := 0) rfl (rfl) (M.out w0) ?_; intro x90 h3_ h4_; have n0_ := Aside0.mk (h3_); clear H; have H := n0_; clear n0_; clear h3_ h4_))
    refine bodyPost_ret (results_ct rfl _ _ gr 30 _ (0, 0) _ rfl (H.out.at 0 rfl) Try.underlying30 rfl (msg_info ((M.out w0).size))) rfl (by rw [EX.out]; exact ⟨_, rfl, M.out _, H.out.b⟩)
theorem parse_0_5 {A : Option Addr} {c : Nat} {l : List Int} {w0 : World} (hr : Kd.C (Kd.int .u8) w0 A l.length l) (hc : l.length ≤ c) (hs : l.length ≤ 1000000) (hb : isBytes l) :
    Calls Try.prog 13 #[.int .i64 0, .int .u8 5, .slice A l.length c] w0 fun en w' => ∃ cx, en = .returned (.tuple #[.agg cx, .int .i64 (parse 0 5 l).2]) ∧ IsMsg w' cx (parse 0 5 l).1 ∧ Below w0.heap.size w0 w' := by
  have HR := Aside0.mk hr
  have HC := Aside0.mk hc
  have HS := Aside0.mk hs
  have HBB := Aside0.mk hb
  clear hr hc hs hb
  have hmm := @run_makeMap Try.prog
  go_enter Try.func13, Try.ntmps13
  go_upto_region 3 with (first | ((with_reducible refine gate_dst (N := 6) rfl ?_); refine ev_alloc rfl rfl ?_; intro gr w1 hg_ h1_ h2_; have HG := Aside0.mk hg_; have H1 := Aside0.mk h1_; have H2 := Aside0.mk h2_; clear hg_ h1_ h2_))
  go_upto_region 4 with (first | ((with_reducible refine gate_dst (N := 22) rfl ?_); refine ev_build ((zeroC.setIfInBounds 0 (.int .u8 (5)))) rfl (by go_simp; first | rfl | done) ?_; intro cx hcx_; have M := Aside0.mk (show ∀ W, IsMsg W cx _ from fun W => by rw [hcx_]; exact (fun W => set_code (zero_is W) (v := 5) (by decide)) W); have NL := Aside0.mk (show NilL cx by rw [hcx_]; exact PS.zero_nil.set (by decide)); clear hcx_) | ((with_reducible refine gate_dst (N := 8) rfl ?_); refine ev_var (y := .tmp 22) rfl rfl rfl rfl rfl (M.out w0) rfl rfl ?_; intro gm w2 hg_ h1_ hb_; have HM1 := Aside0.mk hg_; have HM2 := Aside0.mk h1_; have HM3 := Aside0.mk hb_; clear h1_ hb_ hg_))
  go_upto_region 5 with (first | (go_at_call 20; (with_reducible refine (p_new A c l _ (Kd.C_below HR.out (H2.out.trans (HM3.out.mono H2.out.size))) HC.out HS.out HBB.out).mono ?_); rintro en w3 ⟨g, rfl, q1_, q2_, q3_, q4_⟩; have HP := Aside0.mk (St_first HG.out H1.out H2.out HM1.out HM2.out HM3.out M.out NL.out q1_ q2_ q3_); clear q1_ q2_ q3_ q4_ H1 H2 HG HM1 HM2 HM3) | ((with_reducible refine gate_dst (N := 9) rfl ?_); refine ev_var2 (y := .tmp 25) (cx := #[.pointer (some ⟨g, 0, none⟩), .pointer (some ⟨gm, 0, none⟩)]) (zc := #[.pointer none, .pointer none]) 50 (fun W => run_alloc_form _ _ rfl W) rfl rfl rfl rfl rfl (by kernel_rfl) (by simp [Value.oneCell']) rfl rfl ?_; intro gf w4 hg_ h1_ hb_; have hl_ := PS.Sk.lt (PS.Sk.start HP.out); have HF1 := Aside0.mk (show gf ≠ g from by omega); have HF2 := Aside0.mk (show gf ≠ gm from by omega); have HFB := Aside0.mk h1_; have n0_ := Aside0.mk (PS.St.below HP.out hb_); clear HP; have HP := n0_; clear n0_ h1_ hb_ hg_ hl_))
  have k0 : w4.cell? ⟨gf, 0, none⟩ = some (.pointer (some ⟨g, 0, none⟩)) := (blk_cell HFB.out 0).trans rfl
  have k1 : w4.cell? ⟨gf, 1, none⟩ = some (.pointer (some ⟨gm, 0, none⟩)) := (blk_cell HFB.out 1).trans rfl
  have O : Aside0 ((w4.alloc (.map #[] 0)).ownsMap Try.prog 5 (RV g gm) w4.heap.size 0 D0) := ⟨World.ownsMap_made _ _ _ _⟩
  have HB := Aside0.mk ((Below.refl w4.heap.size w4).alloc (Nat.le_refl _) (.map #[] 0))
  replace k0 : (w4.alloc (.map #[] 0)).cell? ⟨gf, 0, none⟩ = some (.pointer (some ⟨g, 0, none⟩)) := (blk_cell (blk_below HFB.out HB.out) 0).trans rfl
  replace k1 : (w4.alloc (.map #[] 0)).cell? ⟨gf, 1, none⟩ = some (.pointer (some ⟨gm, 0, none⟩)) := (blk_cell (blk_below HFB.out HB.out) 1).trans rfl
  go_upto_region 6 with (first | ((with_reducible refine gate_op (u := .insert 52 (.tmp 26) (.const (.int .u8 1)) (.tmp 31)) rfl ?_); refine ev_insert _ rfl _ _ _ 52 rfl 5 51 lawk Try.underlying52 (RV g gm) w4.heap.size 0 _ rfl O.out (by unfold maxLen; omega) _ (.agg (V1 g gm)) _ rfl rfl (keyOf_int_mk Try.underlying5 (by decide)) _ [] (RV_1 g gm) ?_; intro x0 o_ g_; have n0_ := Aside0.mk o_; have n1_ := Aside0.mk (HB.out.grown g_ HB.out.size (fun j hj => by cases hj; exact Nat.le_refl _)); clear O HB o_ g_; have O := n0_; have HB := n1_; clear n0_ n1_; have k0 : x0.cell? ⟨gf, 0, none⟩ = some (.pointer (some ⟨g, 0, none⟩)) := (blk_cell (blk_below HFB.out HB.out) 0).trans rfl; have k1 : x0.cell? ⟨gf, 1, none⟩ = some (.pointer (some ⟨gm, 0, none⟩)) := (blk_cell (blk_below HFB.out HB.out) 1).trans rfl) | ((with_reducible refine gate_op (u := .insert 52 (.tmp 26) (.const (.int .u8 2)) (.tmp 36)) rfl ?_); refine ev_insert _ rfl _ _ _ 52 rfl 5 51 lawk Try.underlying52 (RV g gm) w4.heap.size 1 _ rfl O.out (by unfold maxLen; omega) _ (.agg (V1 g gm)) _ rfl rfl (keyOf_int_mk Try.underlying5 (by decide)) _ [] (RV_1 g gm) ?_; intro x1 o_ g_; have n0_ := Aside0.mk o_; have n1_ := Aside0.mk (HB.out.grown g_ HB.out.size (fun j hj => by cases hj; exact Nat.le_refl _)); clear O HB o_ g_; have O := n0_; have HB := n1_; clear n0_ n1_; have k0 : x1.cell? ⟨gf, 0, none⟩ = some (.pointer (some ⟨g, 0, none⟩)) := (blk_cell (blk_below HFB.out HB.out) 0).trans rfl; have k1 : x1.cell? ⟨gf, 1, none⟩ = some (.pointer (some ⟨gm, 0, none⟩)) := (blk_cell (blk_below HFB.out HB.out) 1).trans rfl) | ((with_reducible refine gate_op (u := .insert 52 (.tmp 26) (.const (.int .u8 5)) (.tmp 41)) rfl ?_); refine ev_insert _ rfl _ _ _ 52 rfl 5 51 lawk Try.underlying52 (RV g gm) w4.heap.size 2 _ rfl O.out (by unfold maxLen; omega) _ (.agg (V5 g gm)) _ rfl rfl (keyOf_int_mk Try.underlying5 (by decide)) _ [] (RV_5 g gm) ?_; intro x2 o_ g_; have n0_ := Aside0.mk o_; have n1_ := Aside0.mk (HB.out.grown g_ HB.out.size (fun j hj => by cases hj; exact Nat.le_refl _)); clear O HB o_ g_; have O := n0_; have HB := n1_; clear n0_ n1_; have k0 : x2.cell? ⟨gf, 0, none⟩ = some (.pointer (some ⟨g, 0, none⟩)) := (blk_cell (blk_below HFB.out HB.out) 0).trans rfl; have k1 : x2.cell? ⟨gf, 1, none⟩ = some (.pointer (some ⟨gm, 0, none⟩)) := (blk_cell (blk_below HFB.out HB.out) 1).trans rfl) | ((with_reducible refine gate_op (u := .insert 52 (.tmp 26) (.const (.int .u8 15)) (.tmp 46)) rfl ?_); refine ev_insert _ rfl _ _ _ 52 rfl 5 51 lawk Try.underlying52 (RV g gm) w4.heap.size 3 _ rfl O.out (by unfold maxLen; omega) _ (.agg (V15 g gm)) _ rfl rfl (keyOf_int_mk Try.underlying5 (by decide)) _ [] (RV_15 g gm) ?_; intro x3 o_ g_; have n0_ := Aside0.mk o_; have n1_ := Aside0.mk (HB.out.grown g_ HB.out.size (fun j hj => by cases hj; exact Nat.le_refl _)); clear O HB o_ g_; have O := n0_; have HB := n1_; clear n0_ n1_; have k0 : x3.cell? ⟨gf, 0, none⟩ = some (.pointer (some ⟨g, 0, none⟩)) := (blk_cell (blk_below HFB.out HB.out) 0).trans rfl; have k1 : x3.cell? ⟨gf, 1, none⟩ = some (.pointer (some ⟨gm, 0, none⟩)) := (blk_cell (blk_below HFB.out HB.out) 1).trans rfl))
  clear k0 k1
  have HKW := Aside0.mk (show (Lit.int .u8 (5)).wf = true from by decide)
  have lk : (Instr.lookup 52 (.map (some w4.heap.size)) (.int .u8 (5)) true).run Try.prog x3 = .ok (.tuple #[.agg (V5 g gm), .bool true]) x3 := by
    have h := look_p O.out (5) HKW.out
    exact h
  have n0_ := Aside0.mk (PS.St.below HP.out HB.out)
  have n1_ := Aside0.mk (blk_below HFB.out HB.out)
  clear HP HFB HB O
  have HP := n0_
  have HFB := n1_
  clear n0_ n1_
  go_upto_region 7 with (first | ((with_reducible refine gate_dst (N := 11) rfl ?_); refine ev_var2 (y := .tmp 52) (cx := V5 g gm) (zc := VZ) 51 (fun W => run_alloc_pair _ _ rfl W) rfl rfl rfl rfl rfl (by kernel_rfl) (by simp [V1, V5, V15, VZ, Value.oneCell']) rfl rfl ?_; intro gv w5 hg_ h1_ hb_; have HVB := Aside0.mk h1_; have n0_ := Aside0.mk (PS.St.below HP.out hb_); have n1_ := Aside0.mk (blk_below HFB.out hb_); clear HP HFB; have HP := n0_; have HFB := n1_; clear n0_ n1_ h1_ hb_ hg_))
  clear lk hmm
  go_upto_region 9 with (fail)
  have kv : w5.cell? ⟨gv, 0, none⟩ = some (.func (.func 23) #[.agg #[.pointer (some ⟨g, 0, none⟩), .pointer (some ⟨gm, 0, none⟩)]] #[]) := (blk_cell HVB.out 0).trans rfl
  have n0_ := Aside0.mk (PS.Sk.start HP.out)
  clear HP
  have HP := n0_
  clear n0_
  obtain ⟨m0, hm0⟩ : ∃ z, z = ({ zeroM with code := 5 } : Msg) := ⟨_, rfl⟩
  rw [← hm0] at HP
  have HM0 := Aside0.mk hm0
  clear hm0 M NL
  go_upto_region 10 with (first | (go_at_call 23; (with_reducible refine (sets_any HP.out).mono ?_); rintro en w6 ⟨rfl, hp_⟩; obtain ⟨cb, e_⟩ : ∃ z, z = setsR m0 ⟨l, false, 0⟩ := ⟨_, rfl⟩; rw [← e_] at hp_; obtain ⟨c9, m9⟩ := cb; have EB := Aside0.mk e_; clear e_; have n0_ := Aside0.mk hp_; clear HP hp_; have HP := n0_; clear n0_))
  clear kv
  replace HP : Aside0 (PS.Sk w5 w0 gr g gm w6 c9 m9) := HP
  have k0 : w6.cell? ⟨gf, 0, none⟩ = some (.pointer (some ⟨g, 0, none⟩)) := (blk_cell (PS.Sk.blk HP.out HFB.out HF1.out HF2.out) 0).trans rfl
  go_upto_region 11 with (first | (go_at_call 26; (with_reducible refine (PS.Sk.fin HP.out).mono ?_); rintro en x1 ⟨rfl, hp_⟩; obtain ⟨c10, ec_⟩ : ∃ z, z = c9.fin := ⟨_, rfl⟩; rw [← ec_] at hp_; have Ec10 := Aside0.mk ec_; clear ec_; have n0_ := Aside0.mk hp_; clear HP hp_; have HP := n0_; clear n0_))
  clear k0
  have k0 : x1.cell? ⟨gf, 0, none⟩ = some (.pointer (some ⟨g, 0, none⟩)) := (blk_cell (PS.Sk.blk HP.out HFB.out HF1.out HF2.out) 0).trans rfl
  go_upto_region 12 with (first | (go_at_call 27; (with_reducible refine (PS.Sk.err HP.out).mono ?_); rintro en x2 ⟨rfl, hp_⟩; have n0_ := Aside0.mk hp_; clear HP hp_; have HP := n0_; clear n0_))
  clear k0
  have n0_ := Aside0.mk HP.out.st
  clear HP HFB HVB
  have HP := n0_
  clear n0_
  have he1 : parse 0 5 l = if c10.e ≠ 0 then (zeroM, c10.e) else (m9, 0) := by
    have e2 : bodyR 0 5 { zeroM with code := 5 } (cu l) = (c9, m9) := by rw [EB.out, HM0.out]; rfl
    unfold parse
    rw [if_neg (by decide), if_neg (by decide), e2, Ec10.out]
  by_cases h9 : c10.e = 0
  · have ex_ : parse 0 5 l = (m9, 0) := by rw [he1, if_neg (fun h => h h9)]
    have EX := Aside0.mk ex_
    have g1 : (c10.e != 0) = false := by rw [h9]; rfl
    have g2 : (c10.e == 0) = true := by rw [h9]; rfl
    clear h9 ex_ he1
    obtain ⟨cx, h_, hz_, hm_⟩ := PS.St.held2 HP.out
    have H := Aside0.mk h_
    have HZ := Aside0.mk hz_
    have HM := Aside0.mk hm_
    have HB := Aside0.mk HP.out.b
    clear h_ hz_ hm_ HP
    go_wp2_with (first | ((with_reducible refine gate_dst (N := 71) rfl ?_); refine ev_load (x := .tmp 8) rfl rfl rfl H.out (i := 1) rfl (HZ.out) ?_) | ((with_reducible refine gate_op (u := .store 30 (.tmp 6) (.tmp 71)) rfl ?_); refine ev_store rfl rfl rfl rfl H.out (i := 0) rfl rfl (HM.out _ ⟨rfl, rfl, rfl, Kept.refl _ _⟩) ?_; intro x91 h3_ h4_; have HE := Aside0.mk (HM.out _ h4_); clear h4_; have n0_ := Aside0.mk (h3_); clear H; have H := n0_; clear n0_; clear h3_))
    refine bodyPost_ret (results_ct rfl _ _ gr 30 _ (0, 0) _ rfl (H.out.at 0 rfl) Try.underlying30 rfl (msg_info (HZ.out))) rfl (by rw [EX.out]; exact ⟨_, rfl, HE.out, H.out.b⟩)
  · have ex_ : parse 0 5 l = (zeroM, c10.e) := by rw [he1, if_pos h9]
    have EX := Aside0.mk ex_
    have g1 : (c10.e != 0) = true := by simpa using h9
    have g2 : (c10.e == 0) = false := by simpa using h9
    clear h9 ex_ he1
    have H := Aside0.mk (PS.St.held HP.out)
    clear HP
    go_wp2_with (first | ((with_reducible refine gate_dst (N := 69) rfl ?_); refine ev_build (zeroC) rfl (by go_simp; first | rfl | done) ?_; intro cx hcx_; have M := Aside0.mk (show ∀ W, IsMsg W cx _ from fun W => by rw [hcx_]; exact zero_is W); clear hcx_) | ((with_reducible refine gate_op (u := .store 30 (.tmp 6) (.tmp 69)) rfl ?_); refine ev_store rfl rfl rfl rfl H.out (i := 0) rfl (rfl) (M.out w0) ?_; intro x90 h3_ h4_; have n0_ := Aside0.mk (h3_); clear H; have H := n0_; clear n0_; clear h3_ h4_))
    refine bodyPost_ret (results_ct rfl _ _ gr 30 _ (0, 0) _ rfl (H.out.at 0 rfl) Try.underlying30 rfl (msg_info ((M.out w0).size))) rfl (by rw [EX.out]; exact ⟨_, rfl, M.out _, H.out.b⟩)
theorem parse_0_15 {A : Option Addr} {c : Nat} {l : List Int} {w0 : World} (hr : Kd.C (Kd.int .u8) w0 A l.length l) (hc : l.length ≤ c) (hs : l.length ≤ 1000000) (hb : isBytes l) :
    Calls Try.prog 13 #[.int .i64 0, .int .u8 15, .slice A l.length c] w0 fun en w' => ∃ cx, en = .returned (.tuple #[.agg cx, .int .i64 (parse 0 15 l).2]) ∧ IsMsg w' cx (parse 0 15 l).1 ∧ Below w0.heap.size w0 w' := by
  have HR := Aside0.mk hr
  have HC := Aside0.mk hc
  have HS := Aside0.mk hs
  have HBB := Aside0.mk hb
  clear hr hc hs hb
  have hmm := @run_makeMap Try.prog
  go_enter Try.func13, Try.ntmps13
  go_upto_region 3 with (first | ((with_reducible refine gate_dst (N := 6) rfl ?_); refine ev_alloc rfl rfl ?_; intro gr w1 hg_ h1_ h2_; have HG := Aside0.mk hg_; have H1 := Aside0.mk h1_; have H2 := Aside0.mk h2_; clear hg_ h1_ h2_))
  go_upto_region 4 with (first | ((with_reducible refine gate_dst (N := 22) rfl ?_); refine ev_build ((zeroC.setIfInBounds 0 (.int .u8 (15)))) rfl (by go_simp; first | rfl | done) ?_; intro cx hcx_; have M := Aside0.mk (show ∀ W, IsMsg W cx _ from fun W => by rw [hcx_]; exact (fun W => set_code (zero_is W) (v := 15) (by decide)) W); have NL := Aside0.mk (show NilL cx by rw [hcx_]; exact PS.zero_nil.set (by decide)); clear hcx_) | ((with_reducible refine gate_dst (N := 8) rfl ?_); refine ev_var (y := .tmp 22) rfl rfl rfl rfl rfl (M.out w0) rfl rfl ?_; intro gm w2 hg_ h1_ hb_; have HM1 := Aside0.mk hg_; have HM2 := Aside0.mk h1_; have HM3 := Aside0.mk hb_; clear h1_ hb_ hg_))
  go_upto_region 5 with (first | (go_at_call 20; (with_reducible refine (p_new A c l _ (Kd.C_below HR.out (H2.out.trans (HM3.out.mono H2.out.size))) HC.out HS.out HBB.out).mono ?_); rintro en w3 ⟨g, rfl, q1_, q2_, q3_, q4_⟩; have HP := Aside0.mk (St_first HG.out H1.out H2.out HM1.out HM2.out HM3.out M.out NL.out q1_ q2_ q3_); clear q1_ q2_ q3_ q4_ H1 H2 HG HM1 HM2 HM3) | ((with_reducible refine gate_dst (N := 9) rfl ?_); refine ev_var2 (y := .tmp 25) (cx := #[.pointer (some ⟨g, 0, none⟩), .pointer (some ⟨gm, 0, none⟩)]) (zc := #[.pointer none, .pointer none]) 50 (fun W => run_alloc_form _ _ rfl W) rfl rfl rfl rfl rfl (by kernel_rfl) (by simp [Value.oneCell']) rfl rfl ?_; intro gf w4 hg_ h1_ hb_; have hl_ := PS.Sk.lt (PS.Sk.start HP.out); have HF1 := Aside0.mk (show gf ≠ g from by omega); have HF2 := Aside0.mk (show gf ≠ gm from by omega); have HFB := Aside0.mk h1_; have n0_ := Aside0.mk (PS.St.below HP.out hb_); clear HP; have HP := n0_; clear n0_ h1_ hb_ hg_ hl_))
  have k0 : w4.cell? ⟨gf, 0, none⟩ = some (.pointer (some ⟨g, 0, none⟩)) := (blk_cell HFB.out 0).trans rfl
  have k1 : w4.cell? ⟨gf, 1, none⟩ = some (.pointer (some ⟨gm, 0, none⟩)) := (blk_cell HFB.out 1).trans rfl
  have O : Aside0 ((w4.alloc (.map #[] 0)).ownsMap Try.prog 5 (RV g gm) w4.heap.size 0 D0) := ⟨World.ownsMap_made _ _ _ _⟩
  have HB := Aside0.mk ((Below.refl w4.heap.size w4).alloc (Nat.le_refl _) (.map #[] 0))
  replace k0 : (w4.alloc (.map #[] 0)).cell? ⟨gf, 0, none⟩ = some (.pointer (some ⟨g, 0, none⟩)) := (blk_cell (blk_below HFB.out HB.out) 0).trans rfl
  replace k1 : (w4.alloc (.map #[] 0)).cell? ⟨gf, 1, none⟩ = some (.pointer (some ⟨gm, 0, none⟩)) := (blk_cell (blk_below HFB.out HB.out) 1).trans rfl
  go_upto_region 6 with (first | ((with_reducible refine gate_op (u := .insert 52 (.tmp 26) (.const (.int .u8 1)) (.tmp 31)) rfl ?_); refine ev_insert _ rfl _ _ _ 52 rfl 5 51 lawk Try.underlying52 (RV g gm) w4.heap.size 0 _ rfl O.out (by unfold maxLen; omega) _ (.agg (V1 g gm)) _ rfl rfl (keyOf_int_mk Try.underlying5 (by decide)) _ [] (RV_1 g gm) ?_; intro x0 o_ g_; have n0_ := Aside0.mk o_; have n1_ := Aside0.mk (HB.out.grown g_ HB.out.size (fun j hj => by cases hj; exact Nat.le_refl _)); clear O HB o_ g_; have O := n0_; have HB := n1_; clear n0_ n1_; have k0 : x0.cell? ⟨gf, 0, none⟩ = some (.pointer (some ⟨g, 0, none⟩)) := (blk_cell (blk_below HFB.out HB.out) 0).trans rfl; have k1 : x0.cell? ⟨gf, 1, none⟩ = some (.pointer (some ⟨gm, 0, none⟩)) := (blk_cell (blk_below HFB.out HB.out) 1).trans rfl) | ((with_reducible refine gate_op (u := .insert 52 (.tmp 26) (.const (.int .u8 2)) (.tmp 36)) rfl ?_); refine ev_insert _ rfl _ _ _ 52 rfl 5 51 lawk Try.underlying52 (RV g gm) w4.heap.size 1 _ rfl O.out (by unfold maxLen; omega) _ (.agg (V1 g gm)) _ rfl rfl (keyOf_int_mk Try.underlying5 (by decide)) _ [] (RV_1 g gm) ?_; intro x1 o_ g_; have n0_ := Aside0.mk o_; have n1_ := Aside0.mk (HB.out.grown g_ HB.out.size (fun j hj => by cases hj; exact Nat.le_refl _)); clear O HB o_ g_; have O := n0_; have HB := n1_; clear n0_ n1_; have k0 : x1.cell? ⟨gf, 0, none⟩ = some (.pointer (some ⟨g, 0, none⟩)) := (blk_cell (blk_below HFB.out HB.out) 0).trans rfl; have k1 : x1.cell? ⟨gf, 1, none⟩ = some (.pointer (some ⟨gm, 0, none⟩)) := (blk_cell (blk_below HFB.out HB.out) 1).trans rfl) | ((with_reducible refine gate_op (u := .insert 52 (.tmp 26) (.const (.int .u8 5)) (.tmp 41)) rfl ?_); refine ev_insert _ rfl _ _ _ 52 rfl 5 51 lawk Try.underlying52 (RV g gm) w4.heap.size 2 _ rfl O.out (by unfold maxLen; omega) _ (.agg (V5 g gm)) _ rfl rfl (keyOf_int_mk Try.underlying5 (by decide)) _ [] (RV_5 g gm) ?_; intro x2 o_ g_; have n0_ := Aside0.mk o_; have n1_ := Aside0.mk (HB.out.grown g_ HB.out.size (fun j hj => by cases hj; exact Nat.le_refl _)); clear O HB o_ g_; have O := n0_; have HB := n1_; clear n0_ n1_; have k0 : x2.cell? ⟨gf, 0, none⟩ = some (.pointer (some ⟨g, 0, none⟩)) := (blk_cell (blk_below HFB.out HB.out) 0).trans rfl; have k1 : x2.cell? ⟨gf, 1, none⟩ = some (.pointer (some ⟨gm, 0, none⟩)) := (blk_cell (blk_below HFB.out HB.out) 1).trans rfl) | ((with_reducible refine gate_op (u := .insert 52 (.tmp 26) (.const (.int .u8 15)) (.tmp 46)) rfl ?_); refine ev_insert _ rfl _ _ _ 52 rfl 5 51 lawk Try.underlying52 (RV g gm) w4.heap.size 3 _ rfl O.out (by unfold maxLen; omega) _ (.agg (V15 g gm)) _ rfl rfl (keyOf_int_mk Try.underlying5 (by decide)) _ [] (RV_15 g gm) ?_; intro x3 o_ g_; have n0_ := Aside0.mk o_; have n1_ := Aside0.mk (HB.out.grown g_ HB.out.size (fun j hj => by cases hj; exact Nat.le_refl _)); clear O HB o_ g_; have O := n0_; have HB := n1_; clear n0_ n1_; have k0 : x3.cell? ⟨gf, 0, none⟩ = some (.pointer (some ⟨g, 0, none⟩)) := (blk_cell (blk_below HFB.out HB.out) 0).trans rfl; have k1 : x3.cell? ⟨gf, 1, none⟩ = some (.pointer (some ⟨gm, 0, none⟩)) := (blk_cell (blk_below HFB.out HB.out) 1).trans rfl))
  clear k0 k1
  have HKW := Aside0.mk (show (Lit.int .u8 (15)).wf = true from by decide)
  have lk : (Instr.lookup 52 (.map (some w4.heap.size)) (.int .u8 (15)) true).run Try.prog x3 = .ok (.tuple #[.agg (V15 g gm), .bool true]) x3 := by
    have h := look_p O.out (15) HKW.out
    exact h
  have n0_ := Aside0.mk (PS.St.below HP.out HB.out)
  have n1_ := Aside0.mk (blk_below HFB.out HB.out)
  clear HP HFB HB O
  have HP := n0_
  have HFB := n1_
  clear n0_ n1_
  go_upto_region 7 with (first | ((with_reducible refine gate_dst (N := 11) rfl ?_); refine ev_var2 (y := .tmp 52) (cx := V15 g gm) (zc := VZ) 51 (fun W => run_alloc_pair _ _ rfl W) rfl rfl rfl rfl rfl (by kernel_rfl) (by simp [V1, V5, V15, VZ, Value.oneCell']) rfl rfl ?_; intro gv w5 hg_ h1_ hb_; have HVB := Aside0.mk h1_; have n0_ := Aside0.mk (PS.St.below HP.out hb_); have n1_ := Aside0.mk (blk_below HFB.out hb_); clear HP HFB; have HP := n0_; have HFB := n1_; clear n0_ n1_ h1_ hb_ hg_))
  clear lk hmm
  go_upto_region 9 with (fail)
  have kv : w5.cell? ⟨gv, 0, none⟩ = some (.func (.func 24) #[.agg #[.pointer (some ⟨g, 0, none⟩), .pointer (some ⟨gm, 0, none⟩)]] #[]) := (blk_cell HVB.out 0).trans rfl
  have n0_ := Aside0.mk (PS.Sk.start HP.out)
  clear HP
  have HP := n0_
  clear n0_
  obtain ⟨m0, hm0⟩ : ∃ z, z = ({ zeroM with code := 15 } : Msg) := ⟨_, rfl⟩
  rw [← hm0] at HP
  have HM0 := Aside0.mk hm0
  clear hm0 M NL
  go_upto_region 10 with (first | (go_at_call 24; (with_reducible refine (setsMany_any HP.out).mono ?_); rintro en w6 ⟨rfl, hp_⟩; obtain ⟨cb, e_⟩ : ∃ z, z = manyR m0 ⟨l, false, 0⟩ := ⟨_, rfl⟩; rw [← e_] at hp_; obtain ⟨c9, m9⟩ := cb; have EB := Aside0.mk e_; clear e_; have n0_ := Aside0.mk hp_; clear HP hp_; have HP := n0_; clear n0_))
  clear kv
  replace HP : Aside0 (PS.Sk w5 w0 gr g gm w6 c9 m9) := HP
  have k0 : w6.cell? ⟨gf, 0, none⟩ = some (.pointer (some ⟨g, 0, none⟩)) := (blk_cell (PS.Sk.blk HP.out HFB.out HF1.out HF2.out) 0).trans rfl
  go_upto_region 11 with (first | (go_at_call 26; (with_reducible refine (PS.Sk.fin HP.out).mono ?_); rintro en x1 ⟨rfl, hp_⟩; obtain ⟨c10, ec_⟩ : ∃ z, z = c9.fin := ⟨_, rfl⟩; rw [← ec_] at hp_; have Ec10 := Aside0.mk ec_; clear ec_; have n0_ := Aside0.mk hp_; clear HP hp_; have HP := n0_; clear n0_))
  clear k0
  have k0 : x1.cell? ⟨gf, 0, none⟩ = some (.pointer (some ⟨g, 0, none⟩)) := (blk_cell (PS.Sk.blk HP.out HFB.out HF1.out HF2.out) 0).trans rfl
  go_upto_region 12 with (first | (go_at_call 27; (with_reducible refine (PS.Sk.err HP.out).mono ?_); rintro en x2 ⟨rfl, hp_⟩; have n0_ := Aside0.mk hp_; clear HP hp_; have HP := n0_; clear n0_))
  clear k0
  have n0_ := Aside0.mk HP.out.st
  clear HP HFB HVB
  have HP := n0_
  clear n0_
  have he1 : parse 0 15 l = if c10.e ≠ 0 then (zeroM, c10.e) else (m9, 0) := by
    have e2 : bodyR 0 15 { zeroM with code := 15 } (cu l) = (c9, m9) := by rw [EB.out, HM0.out]; rfl
    unfold parse
    rw [if_neg (by decide), if_neg (by decide), e2, Ec10.out]
  by_cases h9 : c10.e = 0
  · have ex_ : parse 0 15 l = (m9, 0) := by rw [he1, if_neg (fun h => h h9)]
    have EX := Aside0.mk ex_
    have g1 : (c10.e != 0) = false := by rw [h9]; rfl
    have g2 : (c10.e == 0) = true := by rw [h9]; rfl
    clear h9 ex_ he1
    obtain ⟨cx, h_, hz_, hm_⟩ := PS.St.held2 HP.out
    have H := Aside0.mk h_
    have HZ := Aside0.mk hz_
    have HM := Aside0.mk hm_
    have HB := Aside0.mk HP.out.b
    clear h_ hz_ hm_ HP
    go_wp2_with (first | ((with_reducible refine gate_dst (N := 71) rfl ?_); refine ev_load (x := .tmp 8) rfl rfl rfl H.out (i := 1) rfl (HZ.out) ?_) | ((with_reducible refine gate_op (u := .store 30 (.tmp 6) (.tmp 71)) rfl ?_); refine ev_store rfl rfl rfl rfl H.out (i := 0) rfl rfl (HM.out _ ⟨rfl, rfl, rfl, Kept.refl _ _⟩) ?_; intro x91 h3_ h4_; have HE := Aside0.mk (HM.out _ h4_); clear h4_; have n0_ := Aside0.mk (h3_); clear H; have H := n0_; clear n0_; clear h3_))
    refine bodyPost_ret (results_ct rfl _ _ gr 30 _ (0, 0) _ rfl (H.out.at 0 rfl) Try.underlying30 rfl (msg_info (HZ.out))) rfl (by rw [EX.out]; exact ⟨_, rfl, HE.out, H.out.b⟩)
  · have ex_ : parse 0 15 l = (zeroM, c10.e) := by rw [he1, if_pos h9]
    have EX := Aside0.mk ex_
    have g1 : (c10.e != 0) = true := by simpa using h9
    have g2 : (c10.e == 0) = false := by simpa using h9
    clear h9 ex_ he1
    have H := Aside0.mk (PS.St.held HP.out)
    clear HP
    go_wp2_with (first | ((with_reducible refine gate_dst (N := 69) rfl ?_); refine ev_build (zeroC) rfl (by go_simp; first | rfl | done) ?_; intro cx hcx_; have M := Aside0.mk (show ∀ W, IsMsg W cx _ from fun W => by rw [hcx_]; exact zero_is W); clear hcx_) | ((with_reducible refine gate_op (u := .store 30 (.tmp 6) (.tmp 69)) rfl ?_); refine ev_store rfl rfl rfl rfl H.out (i := 0) rfl (rfl) (M.out w0) ?_; intro x90 h3_ h4_; have n0_ := Aside0.mk (h3_); clear H; have H := n0_; clear n0_; clear h3_ h4_))
    refine bodyPost_ret (results_ct rfl _ _ gr 30 _ (0, 0) _ rfl (H.out.at 0 rfl) Try.underlying30 rfl (msg_info ((M.out w0).size))) rfl (by rw [EX.out]; exact ⟨_, rfl, M.out _, H.out.b⟩)
theorem parse_no1 {A : Option Addr} {c : Nat} {l : List Int} {w0 : World} (hr : Kd.C (Kd.int .u8) w0 A l.length l) (hc : l.length ≤ c) (hs : l.length ≤ 1000000) (hb : isBytes l) {code : Int} (hcd : 0 ≤ code ∧ code < 256) (hk : ¬ (code = 1 ∨ code = 2 ∨ code = 5 ∨ code = 15)) :
    Calls Try.prog 13 #[.int .i64 1, .int .u8 code, .slice A l.length c] w0 fun en w' => ∃ cx, en = .returned (.tuple #[.agg cx, .int .i64 4]) ∧ IsMsg w' cx zeroM ∧ Below w0.heap.size w0 w' := by
  have HR := Aside0.mk hr
  have HC := Aside0.mk hc
  have HS := Aside0.mk hs
  have HBB := Aside0.mk hb
  clear hr hc hs hb
  have hmm := @run_makeMap Try.prog
  have HKB := Aside0.mk hcd
  clear hcd
  have HKN := Aside0.mk hk
  clear hk
  go_enter Try.func13, Try.ntmps13
  go_upto_region 3 with (first | ((with_reducible refine gate_dst (N := 6) rfl ?_); refine ev_alloc rfl rfl ?_; intro gr w1 hg_ h1_ h2_; have HG := Aside0.mk hg_; have H1 := Aside0.mk h1_; have H2 := Aside0.mk h2_; clear hg_ h1_ h2_))
  go_upto_region 4 with (first | ((with_reducible refine gate_dst (N := 22) rfl ?_); refine ev_build ((zeroC.setIfInBounds 0 (.int .u8 (code)))) rfl (by go_simp; first | rfl | done) ?_; intro cx hcx_; have M := Aside0.mk (show ∀ W, IsMsg W cx _ from fun W => by rw [hcx_]; exact (fun W => set_code (zero_is W) (v := code) ⟨by have := HKB.out; omega, by have := HKB.out; omega⟩) W); have NL := Aside0.mk (show NilL cx by rw [hcx_]; exact PS.zero_nil.set (by decide)); clear hcx_) | ((with_reducible refine gate_dst (N := 8) rfl ?_); refine ev_var (y := .tmp 22) rfl rfl rfl rfl rfl (M.out w0) rfl rfl ?_; intro gm w2 hg_ h1_ hb_; have HM1 := Aside0.mk hg_; have HM2 := Aside0.mk h1_; have HM3 := Aside0.mk hb_; clear h1_ hb_ hg_))
  go_upto_region 5 with (first | (go_at_call 20; (with_reducible refine (p_new A c l _ (Kd.C_below HR.out (H2.out.trans (HM3.out.mono H2.out.size))) HC.out HS.out HBB.out).mono ?_); rintro en w3 ⟨g, rfl, q1_, q2_, q3_, q4_⟩; have HP := Aside0.mk (St_first HG.out H1.out H2.out HM1.out HM2.out HM3.out M.out NL.out q1_ q2_ q3_); clear q1_ q2_ q3_ q4_ H1 H2 HG HM1 HM2 HM3) | ((with_reducible refine gate_dst (N := 9) rfl ?_); refine ev_var2 (y := .tmp 25) (cx := #[.pointer (some ⟨g, 0, none⟩), .pointer (some ⟨gm, 0, none⟩)]) (zc := #[.pointer none, .pointer none]) 50 (fun W => run_alloc_form _ _ rfl W) rfl rfl rfl rfl rfl (by kernel_rfl) (by simp [Value.oneCell']) rfl rfl ?_; intro gf w4 hg_ h1_ hb_; have hl_ := PS.Sk.lt (PS.Sk.start HP.out); have HF1 := Aside0.mk (show gf ≠ g from by omega); have HF2 := Aside0.mk (show gf ≠ gm from by omega); have HFB := Aside0.mk h1_; have n0_ := Aside0.mk (PS.St.below HP.out hb_); clear HP; have HP := n0_; clear n0_ h1_ hb_ hg_ hl_))
  have k0 : w4.cell? ⟨gf, 0, none⟩ = some (.pointer (some ⟨g, 0, none⟩)) := (blk_cell HFB.out 0).trans rfl
  have k1 : w4.cell? ⟨gf, 1, none⟩ = some (.pointer (some ⟨gm, 0, none⟩)) := (blk_cell HFB.out 1).trans rfl
  have O : Aside0 ((w4.alloc (.map #[] 0)).ownsMap Try.prog 5 (RV g gm) w4.heap.size 0 D0) := ⟨World.ownsMap_made _ _ _ _⟩
  have HB := Aside0.mk ((Below.refl w4.heap.size w4).alloc (Nat.le_refl _) (.map #[] 0))
  replace k0 : (w4.alloc (.map #[] 0)).cell? ⟨gf, 0, none⟩ = some (.pointer (some ⟨g, 0, none⟩)) := (blk_cell (blk_below HFB.out HB.out) 0).trans rfl
  replace k1 : (w4.alloc (.map #[] 0)).cell? ⟨gf, 1, none⟩ = some (.pointer (some ⟨gm, 0, none⟩)) := (blk_cell (blk_below HFB.out HB.out) 1).trans rfl
  go_upto_region 6 with (first | ((with_reducible refine gate_op (u := .insert 52 (.tmp 26) (.const (.int .u8 1)) (.tmp 31)) rfl ?_); refine ev_insert _ rfl _ _ _ 52 rfl 5 51 lawk Try.underlying52 (RV g gm) w4.heap.size 0 _ rfl O.out (by unfold maxLen; omega) _ (.agg (V1 g gm)) _ rfl rfl (keyOf_int_mk Try.underlying5 (by decide)) _ [] (RV_1 g gm) ?_; intro x0 o_ g_; have n0_ := Aside0.mk o_; have n1_ := Aside0.mk (HB.out.grown g_ HB.out.size (fun j hj => by cases hj; exact Nat.le_refl _)); clear O HB o_ g_; have O := n0_; have HB := n1_; clear n0_ n1_; have k0 : x0.cell? ⟨gf, 0, none⟩ = some (.pointer (some ⟨g, 0, none⟩)) := (blk_cell (blk_below HFB.out HB.out) 0).trans rfl; have k1 : x0.cell? ⟨gf, 1, none⟩ = some (.pointer (some ⟨gm, 0, none⟩)) := (blk_cell (blk_below HFB.out HB.out) 1).trans rfl) | ((with_reducible refine gate_op (u := .insert 52 (.tmp 26) (.const (.int .u8 2)) (.tmp 36)) rfl ?_); refine ev_insert _ rfl _ _ _ 52 rfl 5 51 lawk Try.underlying52 (RV g gm) w4.heap.size 1 _ rfl O.out (by unfold maxLen; omega) _ (.agg (V1 g gm)) _ rfl rfl (keyOf_int_mk Try.underlying5 (by decide)) _ [] (RV_1 g gm) ?_; intro x1 o_ g_; have n0_ := Aside0.mk o_; have n1_ := Aside0.mk (HB.out.grown g_ HB.out.size (fun j hj => by cases hj; exact Nat.le_refl _)); clear O HB o_ g_; have O := n0_; have HB := n1_; clear n0_ n1_; have k0 : x1.cell? ⟨gf, 0, none⟩ = some (.pointer (some ⟨g, 0, none⟩)) := (blk_cell (blk_below HFB.out HB.out) 0).trans rfl; have k1 : x1.cell? ⟨gf, 1, none⟩ = some (.pointer (some ⟨gm, 0, none⟩)) := (blk_cell (blk_below HFB.out HB.out) 1).trans rfl) | ((with_reducible refine gate_op (u := .insert 52 (.tmp 26) (.const (.int .u8 5)) (.tmp 41)) rfl ?_); refine ev_insert _ rfl _ _ _ 52 rfl 5 51 lawk Try.underlying52 (RV g gm) w4.heap.size 2 _ rfl O.out (by unfold maxLen; omega) _ (.agg (V5 g gm)) _ rfl rfl (keyOf_int_mk Try.underlying5 (by decide)) _ [] (RV_5 g gm) ?_; intro x2 o_ g_; have n0_ := Aside0.mk o_; have n1_ := Aside0.mk (HB.out.grown g_ HB.out.size (fun j hj => by cases hj; exact Nat.le_refl _)); clear O HB o_ g_; have O := n0_; have HB := n1_; clear n0_ n1_; have k0 : x2.cell? ⟨gf, 0, none⟩ = some (.pointer (some ⟨g, 0, none⟩)) := (blk_cell (blk_below HFB.out HB.out) 0).trans rfl; have k1 : x2.cell? ⟨gf, 1, none⟩ = some (.pointer (some ⟨gm, 0, none⟩)) := (blk_cell (blk_below HFB.out HB.out) 1).trans rfl) | ((with_reducible refine gate_op (u := .insert 52 (.tmp 26) (.const (.int .u8 15)) (.tmp 46)) rfl ?_); refine ev_insert _ rfl _ _ _ 52 rfl 5 51 lawk Try.underlying52 (RV g gm) w4.heap.size 3 _ rfl O.out (by unfold maxLen; omega) _ (.agg (V15 g gm)) _ rfl rfl (keyOf_int_mk Try.underlying5 (by decide)) _ [] (RV_15 g gm) ?_; intro x3 o_ g_; have n0_ := Aside0.mk o_; have n1_ := Aside0.mk (HB.out.grown g_ HB.out.size (fun j hj => by cases hj; exact Nat.le_refl _)); clear O HB o_ g_; have O := n0_; have HB := n1_; clear n0_ n1_; have k0 : x3.cell? ⟨gf, 0, none⟩ = some (.pointer (some ⟨g, 0, none⟩)) := (blk_cell (blk_below HFB.out HB.out) 0).trans rfl; have k1 : x3.cell? ⟨gf, 1, none⟩ = some (.pointer (some ⟨gm, 0, none⟩)) := (blk_cell (blk_below HFB.out HB.out) 1).trans rfl))
  clear k0 k1
  have HKW := Aside0.mk (show (Lit.int .u8 (code)).wf = true from by have := HKB.out; simp [Lit.wf, IntKind.min, IntKind.max, IntKind.signed, IntKind.bits]; omega)
  have lk : (Instr.lookup 52 (.map (some w4.heap.size)) (.int .u8 (code)) true).run Try.prog x3 = .ok (.tuple #[.agg (VZ), .bool false]) x3 := by
    have h := look_p O.out (code) HKW.out
    rw [if_neg (by have := HKN.out; omega), if_neg (by have := HKN.out; omega), if_neg (by have := HKN.out; omega)] at h
    exact h
  have n0_ := Aside0.mk (PS.St.below HP.out HB.out)
  have n1_ := Aside0.mk (blk_below HFB.out HB.out)
  clear HP HFB HB O
  have HP := n0_
  have HFB := n1_
  clear n0_ n1_
  go_upto_region 7 with (first | ((with_reducible refine gate_dst (N := 11) rfl ?_); refine ev_var2 (y := .tmp 52) (cx := VZ) (zc := VZ) 51 (fun W => run_alloc_pair _ _ rfl W) rfl rfl rfl rfl rfl (by kernel_rfl) (by simp [V1, V5, V15, VZ, Value.oneCell']) rfl rfl ?_; intro gv w5 hg_ h1_ hb_; have HVB := Aside0.mk h1_; have n0_ := Aside0.mk (PS.St.below HP.out hb_); have n1_ := Aside0.mk (blk_below HFB.out hb_); clear HP HFB; have HP := n0_; have HFB := n1_; clear n0_ n1_ h1_ hb_ hg_))
  clear lk hmm
  have H := Aside0.mk (PS.St.held HP.out)
  clear HP M NL
  go_wp2_with (first | ((with_reducible refine gate_dst (N := 56) rfl ?_); refine ev_build (zeroC) rfl (by go_simp; first | rfl | done) ?_; intro cx hcx_; have M := Aside0.mk (show ∀ W, IsMsg W cx _ from fun W => by rw [hcx_]; exact zero_is W); clear hcx_) | ((with_reducible refine gate_op (u := .store 30 (.tmp 6) (.tmp 56)) rfl ?_); refine ev_store rfl rfl rfl rfl H.out (i := 0) rfl (rfl) (M.out w0) ?_; intro w99 h3_ h4_; have n0_ := Aside0.mk (h3_); clear H; have H := n0_; clear n0_; clear h3_ h4_))
  refine bodyPost_ret (results_ct rfl _ _ gr 30 _ (0, 0) _ rfl (H.out.at 0 rfl) Try.underlying30 rfl (msg_info ((M.out w0).size))) rfl (⟨_, rfl, M.out _, H.out.b⟩)
theorem parse_1_1 {A : Option Addr} {c : Nat} {l : List Int} {w0 : World} (hr : Kd.C (Kd.int .u8) w0 A l.length l) (hc : l.length ≤ c) (hs : l.length ≤ 1000000) (hb : isBytes l) :
    Calls Try.prog 13 #[.int .i64 1, .int .u8 1, .slice A l.length c] w0 fun en w' => ∃ cx, en = .returned (.tuple #[.agg cx, .int .i64 (parse 1 1 l).2]) ∧ IsMsg w' cx (parse 1 1 l).1 ∧ Below w0.heap.size w0 w' := by
  have HR := Aside0.mk hr
  have HC := Aside0.mk hc
  have HS := Aside0.mk hs
  have HBB := Aside0.mk hb
  clear hr hc hs hb
  have hmm := @run_makeMap Try.prog
  go_enter Try.func13, Try.ntmps13
  go_upto_region 3 with (first | ((with_reducible refine gate_dst (N := 6) rfl ?_); refine ev_alloc rfl rfl ?_; intro gr w1 hg_ h1_ h2_; have HG := Aside0.mk hg_; have H1 := Aside0.mk h1_; have H2 := Aside0.mk h2_; clear hg_ h1_ h2_))
  go_upto_region 4 with (first | ((with_reducible refine gate_dst (N := 22) rfl ?_); refine ev_build ((zeroC.setIfInBounds 0 (.int .u8 (1)))) rfl (by go_simp; first | rfl | done) ?_; intro cx hcx_; have M := Aside0.mk (show ∀ W, IsMsg W cx _ from fun W => by rw [hcx_]; exact (fun W => set_code (zero_is W) (v := 1) (by decide)) W); have NL := Aside0.mk (show NilL cx by rw [hcx_]; exact PS.zero_nil.set (by decide)); clear hcx_) | ((with_reducible refine gate_dst (N := 8) rfl ?_); refine ev_var (y := .tmp 22) rfl rfl rfl rfl rfl (M.out w0) rfl rfl ?_; intro gm w2 hg_ h1_ hb_; have HM1 := Aside0.mk hg_; have HM2 := Aside0.mk h1_; have HM3 := Aside0.mk hb_; clear h1_ hb_ hg_))
  go_upto_region 5 with (first | (go_at_call 20; (with_reducible refine (p_new A c l _ (Kd.C_below HR.out (H2.out.trans (HM3.out.mono H2.out.size))) HC.out HS.out HBB.out).mono ?_); rintro en w3 ⟨g, rfl, q1_, q2_, q3_, q4_⟩; have HP := Aside0.mk (St_first HG.out H1.out H2.out HM1.out HM2.out HM3.out M.out NL.out q1_ q2_ q3_); clear q1_ q2_ q3_ q4_ H1 H2 HG HM1 HM2 HM3) | ((with_reducible refine gate_dst (N := 9) rfl ?_); refine ev_var2 (y := .tmp 25) (cx := #[.pointer (some ⟨g, 0, none⟩), .pointer (some ⟨gm, 0, none⟩)]) (zc := #[.pointer none, .pointer none]) 50 (fun W => run_alloc_form _ _ rfl W) rfl rfl rfl rfl rfl (by kernel_rfl) (by simp [Value.oneCell']) rfl rfl ?_; intro gf w4 hg_ h1_ hb_; have hl_ := PS.Sk.lt (PS.Sk.start HP.out); have HF1 := Aside0.mk (show gf ≠ g from by omega); have HF2 := Aside0.mk (show gf ≠ gm from by omega); have HFB := Aside0.mk h1_; have n0_ := Aside0.mk (PS.St.below HP.out hb_); clear HP; have HP := n0_; clear n0_ h1_ hb_ hg_ hl_))
  have k0 : w4.cell? ⟨gf, 0, none⟩ = some (.pointer (some ⟨g, 0, none⟩)) := (blk_cell HFB.out 0).trans rfl
  have k1 : w4.cell? ⟨gf, 1, none⟩ = some (.pointer (some ⟨gm, 0, none⟩)) := (blk_cell HFB.out 1).trans rfl
  have O : Aside0 ((w4.alloc (.map #[] 0)).ownsMap Try.prog 5 (RV g gm) w4.heap.size 0 D0) := ⟨World.ownsMap_made _ _ _ _⟩
  have HB := Aside0.mk ((Below.refl w4.heap.size w4).alloc (Nat.le_refl _) (.map #[] 0))
  replace k0 : (w4.alloc (.map #[] 0)).cell? ⟨gf, 0, none⟩ = some (.pointer (some ⟨g, 0, none⟩)) := (blk_cell (blk_below HFB.out HB.out) 0).trans rfl
  replace k1 : (w4.alloc (.map #[] 0)).cell? ⟨gf, 1, none⟩ = some (.pointer (some ⟨gm, 0, none⟩)) := (blk_cell (blk_below HFB.out HB.out) 1).trans rfl
  go_upto_region 6 with (first | ((with_reducible refine gate_op (u := .insert 52 (.tmp 26) (.const (.int .u8 1)) (.tmp 31)) rfl ?_); refine ev_insert _ rfl _ _ _ 52 rfl 5 51 lawk Try.underlying52 (RV g gm) w4.heap.size 0 _ rfl O.out (by unfold maxLen; omega) _ (.agg (V1 g gm)) _ rfl rfl (keyOf_int_mk Try.underlying5 (by decide)) _ [] (RV_1 g gm) ?_; intro x0 o_ g_; have n0_ := Aside0.mk o_; have n1_ := Aside0.mk (HB.out.grown g_ HB.out.size (fun j hj => by cases hj; exact Nat.le_refl _)); clear O HB o_ g_; have O := n0_; have HB := n1_; clear n0_ n1_; have k0 : x0.cell? ⟨gf, 0, none⟩ = some (.pointer (some ⟨g, 0, none⟩)) := (blk_cell (blk_below HFB.out HB.out) 0).trans rfl; have k1 : x0.cell? ⟨gf, 1, none⟩ = some (.pointer (some ⟨gm, 0, none⟩)) := (blk_cell (blk_below HFB.out HB.out) 1).trans rfl) | ((with_reducible refine gate_op (u := .insert 52 (.tmp 26) (.const (.int .u8 2)) (.tmp 36)) rfl ?_); refine ev_insert _ rfl _ _ _ 52 rfl 5 51 lawk Try.underlying52 (RV g gm) w4.heap.size 1 _ rfl O.out (by unfold maxLen; omega) _ (.agg (V1 g gm)) _ rfl rfl (keyOf_int_mk Try.underlying5 (by decide)) _ [] (RV_1 g gm) ?_; intro x1 o_ g_; have n0_ := Aside0.mk o_; have n1_ := Aside0.mk (HB.out.grown g_ HB.out.size (fun j hj => by cases hj; exact Nat.le_refl _)); clear O HB o_ g_; have O := n0_; have HB := n1_; clear n0_ n1_; have k0 : x1.cell? ⟨gf, 0, none⟩ = some (.pointer (some ⟨g, 0, none⟩)) := (blk_cell (blk_below HFB.out HB.out) 0).trans rfl; have k1 : x1.cell? ⟨gf, 1, none⟩ = some (.pointer (some ⟨gm, 0, none⟩)) := (blk_cell (blk_below HFB.out HB.out) 1).trans rfl) | ((with_reducible refine gate_op (u := .insert 52 (.tmp 26) (.const (.int .u8 5)) (.tmp 41)) rfl ?_); refine ev_insert _ rfl _ _ _ 52 rfl 5 51 lawk Try.underlying52 (RV g gm) w4.heap.size 2 _ rfl O.out (by unfold maxLen; omega) _ (.agg (V5 g gm)) _ rfl rfl (keyOf_int_mk Try.underlying5 (by decide)) _ [] (RV_5 g gm) ?_; intro x2 o_ g_; have n0_ := Aside0.mk o_; have n1_ := Aside0.mk (HB.out.grown g_ HB.out.size (fun j hj => by cases hj; exact Nat.le_refl _)); clear O HB o_ g_; have O := n0_; have HB := n1_; clear n0_ n1_; have k0 : x2.cell? ⟨gf, 0, none⟩ = some (.pointer (some ⟨g, 0, none⟩)) := (blk_cell (blk_below HFB.out HB.out) 0).trans rfl; have k1 : x2.cell? ⟨gf, 1, none⟩ = some (.pointer (some ⟨gm, 0, none⟩)) := (blk_cell (blk_below HFB.out HB.out) 1).trans rfl) | ((with_reducible refine gate_op (u := .insert 52 (.tmp 26) (.const (.int .u8 15)) (.tmp 46)) rfl ?_); refine ev_insert _ rfl _ _ _ 52 rfl 5 51 lawk Try.underlying52 (RV g gm) w4.heap.size 3 _ rfl O.out (by unfold maxLen; omega) _ (.agg (V15 g gm)) _ rfl rfl (keyOf_int_mk Try.underlying5 (by decide)) _ [] (RV_15 g gm) ?_; intro x3 o_ g_; have n0_ := Aside0.mk o_; have n1_ := Aside0.mk (HB.out.grown g_ HB.out.size (fun j hj => by cases hj; exact Nat.le_refl _)); clear O HB o_ g_; have O := n0_; have HB := n1_; clear n0_ n1_; have k0 : x3.cell? ⟨gf, 0, none⟩ = some (.pointer (some ⟨g, 0, none⟩)) := (blk_cell (blk_below HFB.out HB.out) 0).trans rfl; have k1 : x3.cell? ⟨gf, 1, none⟩ = some (.pointer (some ⟨gm, 0, none⟩)) := (blk_cell (blk_below HFB.out HB.out) 1).trans rfl))
  clear k0 k1
  have HKW := Aside0.mk (show (Lit.int .u8 (1)).wf = true from by decide)
  have lk : (Instr.lookup 52 (.map (some w4.heap.size)) (.int .u8 (1)) true).run Try.prog x3 = .ok (.tuple #[.agg (V1 g gm), .bool true]) x3 := by
    have h := look_p O.out (1) HKW.out
    exact h
  have n0_ := Aside0.mk (PS.St.below HP.out HB.out)
  have n1_ := Aside0.mk (blk_below HFB.out HB.out)
  clear HP HFB HB O
  have HP := n0_
  have HFB := n1_
  clear n0_ n1_
  go_upto_region 7 with (first | ((with_reducible refine gate_dst (N := 11) rfl ?_); refine ev_var2 (y := .tmp 52) (cx := V1 g gm) (zc := VZ) 51 (fun W => run_alloc_pair _ _ rfl W) rfl rfl rfl rfl rfl (by kernel_rfl) (by simp [V1, V5, V15, VZ, Value.oneCell']) rfl rfl ?_; intro gv w5 hg_ h1_ hb_; have HVB := Aside0.mk h1_; have n0_ := Aside0.mk (PS.St.below HP.out hb_); have n1_ := Aside0.mk (blk_below HFB.out hb_); clear HP HFB; have HP := n0_; have HFB := n1_; clear n0_ n1_ h1_ hb_ hg_))
  clear lk hmm
  go_upto_region 9 with (fail)
  have kv : w5.cell? ⟨gv, 1, none⟩ = some (.func (.func 22) #[.agg #[.pointer (some ⟨g, 0, none⟩), .pointer (some ⟨gm, 0, none⟩)]] #[]) := (blk_cell HVB.out 1).trans rfl
  have n0_ := Aside0.mk (PS.Sk.start HP.out)
  clear HP
  have HP := n0_
  clear n0_
  obtain ⟨m0, hm0⟩ : ∃ z, z = ({ zeroM with code := 1 } : Msg) := ⟨_, rfl⟩
  rw [← hm0] at HP
  have HM0 := Aside0.mk hm0
  clear hm0 M NL
  go_upto_region 10 with (first | (go_at_call 22; (with_reducible refine (told_any HP.out).mono ?_); rintro en w6 ⟨rfl, hp_⟩; obtain ⟨cb, e_⟩ : ∃ z, z = toldR m0 ⟨l, false, 0⟩ := ⟨_, rfl⟩; rw [← e_] at hp_; obtain ⟨c9, m9⟩ := cb; have EB := Aside0.mk e_; clear e_; have n0_ := Aside0.mk hp_; clear HP hp_; have HP := n0_; clear n0_))
  clear kv
  replace HP : Aside0 (PS.Sk w5 w0 gr g gm w6 c9 m9) := HP
  have k0 : w6.cell? ⟨gf, 0, none⟩ = some (.pointer (some ⟨g, 0, none⟩)) := (blk_cell (PS.Sk.blk HP.out HFB.out HF1.out HF2.out) 0).trans rfl
  go_upto_region 11 with (first | (go_at_call 26; (with_reducible refine (PS.Sk.fin HP.out).mono ?_); rintro en x1 ⟨rfl, hp_⟩; obtain ⟨c10, ec_⟩ : ∃ z, z = c9.fin := ⟨_, rfl⟩; rw [← ec_] at hp_; have Ec10 := Aside0.mk ec_; clear ec_; have n0_ := Aside0.mk hp_; clear HP hp_; have HP := n0_; clear n0_))
  clear k0
  have k0 : x1.cell? ⟨gf, 0, none⟩ = some (.pointer (some ⟨g, 0, none⟩)) := (blk_cell (PS.Sk.blk HP.out HFB.out HF1.out HF2.out) 0).trans rfl
  go_upto_region 12 with (first | (go_at_call 27; (with_reducible refine (PS.Sk.err HP.out).mono ?_); rintro en x2 ⟨rfl, hp_⟩; have n0_ := Aside0.mk hp_; clear HP hp_; have HP := n0_; clear n0_))
  clear k0
  have n0_ := Aside0.mk HP.out.st
  clear HP HFB HVB
  have HP := n0_
  clear n0_
  have he1 : parse 1 1 l = if c10.e ≠ 0 then (zeroM, c10.e) else (m9, 0) := by
    have e2 : bodyR 1 1 { zeroM with code := 1 } (cu l) = (c9, m9) := by rw [EB.out, HM0.out]; rfl
    unfold parse
    rw [if_neg (by decide), if_neg (by decide), e2, Ec10.out]
  by_cases h9 : c10.e = 0
  · have ex_ : parse 1 1 l = (m9, 0) := by rw [he1, if_neg (fun h => h h9)]
    have EX := Aside0.mk ex_
    have g1 : (c10.e != 0) = false := by rw [h9]; rfl
    have g2 : (c10.e == 0) = true := by rw [h9]; rfl
    clear h9 ex_ he1
    obtain ⟨cx, h_, hz_, hm_⟩ := PS.St.held2 HP.out
    have H := Aside0.mk h_
    have HZ := Aside0.mk hz_
    have HM := Aside0.mk hm_
    have HB := Aside0.mk HP.out.b
    clear h_ hz_ hm_ HP
    go_wp2_with (first | ((with_reducible refine gate_dst (N := 71) rfl ?_); refine ev_load (x := .tmp 8) rfl rfl rfl H.out (i := 1) rfl (HZ.out) ?_) | ((with_reducible refine gate_op (u := .store 30 (.tmp 6) (.tmp 71)) rfl ?_); refine ev_store rfl rfl rfl rfl H.out (i := 0) rfl rfl (HM.out _ ⟨rfl, rfl, rfl, Kept.refl _ _⟩) ?_; intro x91 h3_ h4_; have HE := Aside0.mk (HM.out _ h4_); clear h4_; have n0_ := Aside0.mk (h3_); clear H; have H := n0_; clear n0_; clear h3_))
    refine bodyPost_ret (results_ct rfl _ _ gr 30 _ (0, 0) _ rfl (H.out.at 0 rfl) Try.underlying30 rfl (msg_info (HZ.out))) rfl (by rw [EX.out]; exact ⟨_, rfl, HE.out, H.out.b⟩)
  · have ex_ : parse 1 1 l = (zeroM, c10.e) := by rw [he1, if_pos h9]
    have EX := Aside0.mk ex_
    have g1 : (c10.e != 0) = true := by simpa using h9
    have g2 : (c10.e == 0) = false := by simpa using h9
    clear h9 ex_ he1
    have H := Aside0.mk (PS.St.held HP.out)
    clear HP
    go_wp2_with (first | ((with_reducible refine gate_dst (N := 69) rfl ?_); refine ev_build (zeroC) rfl (by go_simp; first | rfl | done) ?_; intro cx hcx_; have M := Aside0.mk (show ∀ W, IsMsg W cx _ from fun W => by rw [hcx_]; exact zero_is W); clear hcx_) | ((with_reducible refine gate_op (u := .store 30 (.tmp 6) (.tmp 69)) rfl ?_); refine ev_store rfl rfl rfl rfl H.out (i := 0) rfl (rfl) (M.out w0) ?_; intro x90 h3_ h4_; have n0_ := Aside0.mk (h3_); clear H; have H := n0_; clear n0_; clear h3_ h4_))
    refine bodyPost_ret (results_ct rfl _ _ gr 30 _ (0, 0) _ rfl (H.out.at 0 rfl) Try.underlying30 rfl (msg_info ((M.out w0).size))) rfl (by rw [EX.out]; exact ⟨_, rfl, M.out _, H.out.b⟩)
theorem parse_1_2 {A : Option Addr} {c : Nat} {l : List Int} {w0 : World} (hr : Kd.C (Kd.int .u8) w0 A l.length l) (hc : l.length ≤ c) (hs : l.length ≤ 1000000) (hb : isBytes l) :
    Calls Try.prog 13 #[.int .i64 1, .int .u8 2, .slice A l.length c] w0 fun en w' => ∃ cx, en = .returned (.tuple #[.agg cx, .int .i64 (parse 1 2 l).2]) ∧ IsMsg w' cx (parse 1 2 l).1 ∧ Below w0.heap.size w0 w' := by
  have HR := Aside0.mk hr
  have HC := Aside0.mk hc
  have HS := Aside0.mk hs
  have HBB := Aside0.mk hb
  clear hr hc hs hb
  have hmm := @run_makeMap Try.prog
  go_enter Try.func13, Try.ntmps13
  go_upto_region 3 with (first | ((with_reducible refine gate_dst (N := 6) rfl ?_); refine ev_alloc rfl rfl ?_; intro gr w1 hg_ h1_ h2_; have HG := Aside0.mk hg_; have H1 := Aside0.mk h1_; have H2 := Aside0.mk h2_; clear hg_ h1_ h2_))
  go_upto_region 4 with (first | ((with_reducible refine gate_dst (N := 22) rfl ?_); refine ev_build ((zeroC.setIfInBounds 0 (.int .u8 (2)))) rfl (by go_simp; first | rfl | done) ?_; intro cx hcx_; have M := Aside0.mk (show ∀ W, IsMsg W cx _ from fun W => by rw [hcx_]; exact (fun W => set_code (zero_is W) (v := 2) (by decide)) W); have NL := Aside0.mk (show NilL cx by rw [hcx_]; exact PS.zero_nil.set (by decide)); clear hcx_) | ((with_reducible refine gate_dst (N := 8) rfl ?_); refine ev_var (y := .tmp 22) rfl rfl rfl rfl rfl (M.out w0) rfl rfl ?_; intro gm w2 hg_ h1_ hb_; have HM1 := Aside0.mk hg_; have HM2 := Aside0.mk h1_; have HM3 := Aside0.mk hb_; clear h1_ hb_ hg_))
  go_upto_region 5 with (first | (go_at_call 20; (with_reducible refine (p_new A c l _ (Kd.C_below HR.out (H2.out.trans (HM3.out.mono H2.out.size))) HC.out HS.out HBB.out).mono ?_); rintro en w3 ⟨g, rfl, q1_, q2_, q3_, q4_⟩; have HP := Aside0.mk (St_first HG.out H1.out H2.out HM1.out HM2.out HM3.out M.out NL.out q1_ q2_ q3_); clear q1_ q2_ q3_ q4_ H1 H2 HG HM1 HM2 HM3) | ((with_reducible refine gate_dst (N := 9) rfl ?_); refine ev_var2 (y := .tmp 25) (cx := #[.pointer (some ⟨g, 0, none⟩), .pointer (some ⟨gm, 0, none⟩)]) (zc := #[.pointer none, .pointer none]) 50 (fun W => run_alloc_form _ _ rfl W) rfl rfl rfl rfl rfl (by kernel_rfl) (by simp [Value.oneCell']) rfl rfl ?_; intro gf w4 hg_ h1_ hb_; have hl_ := PS.Sk.lt (PS.Sk.start HP.out); have HF1 := Aside0.mk (show gf ≠ g from by omega); have HF2 := Aside0.mk (show gf ≠ gm from by omega); have HFB := Aside0.mk h1_; have n0_ := Aside0.mk (PS.St.below HP.out hb_); clear HP; have HP := n0_; clear n0_ h1_ hb_ hg_ hl_))
  have k0 : w4.cell? ⟨gf, 0, none⟩ = some (.pointer (some ⟨g, 0, none⟩)) := (blk_cell HFB.out 0).trans rfl
  have k1 : w4.cell? ⟨gf, 1, none⟩ = some (.pointer (some ⟨gm, 0, none⟩)) := (blk_cell HFB.out 1).trans rfl
  have O : Aside0 ((w4.alloc (.map #[] 0)).ownsMap Try.prog 5 (RV g gm) w4.heap.size 0 D0) := ⟨World.ownsMap_made _ _ _ _⟩
  have HB := Aside0.mk ((Below.refl w4.heap.size w4).alloc (Nat.le_refl _) (.map #[] 0))
  replace k0 : (w4.alloc (.map #[] 0)).cell? ⟨gf, 0, none⟩ = some (.pointer (some ⟨g, 0, none⟩)) := (blk_cell (blk_below HFB.out HB.out) 0).trans rfl
  replace k1 : (w4.alloc (.map #[] 0)).cell? ⟨gf, 1, none⟩ = some (.pointer (some ⟨gm, 0, none⟩)) := (blk_cell (blk_below HFB.out HB.out) 1).trans rfl
  go_upto_region 6 with (first | ((with_reducible refine gate_op (u := .insert 52 (.tmp 26) (.const (.int .u8 1)) (.tmp 31)) rfl ?_); refine ev_insert _ rfl _ _ _ 52 rfl 5 51 lawk Try.underlying52 (RV g gm) w4.heap.size 0 _ rfl O.out (by unfold maxLen; omega) _ (.agg (V1 g gm)) _ rfl rfl (keyOf_int_mk Try.underlying5 (by decide)) _ [] (RV_1 g gm) ?_; intro x0 o_ g_; have n0_ := Aside0.mk o_; have n1_ := Aside0.mk (HB.out.grown g_ HB.out.size (fun j hj => by cases hj; exact Nat.le_refl _)); clear O HB o_ g_; have O := n0_; have HB := n1_; clear n0_ n1_; have k0 : x0.cell? ⟨gf, 0, none⟩ = some (.pointer (some ⟨g, 0, none⟩)) := (blk_cell (blk_below HFB.out HB.out) 0).trans rfl; have k1 : x0.cell? ⟨gf, 1, none⟩ = some (.pointer (some ⟨gm, 0, none⟩)) := (blk_cell (blk_below HFB.out HB.out) 1).trans rfl) | ((with_reducible refine gate_op (u := .insert 52 (.tmp 26) (.const (.int .u8 2)) (.tmp 36)) rfl ?_); refine ev_insert _ rfl _ _ _ 52 rfl 5 51 lawk Try.underlying52 (RV g gm) w4.heap.size 1 _ rfl O.out (by unfold maxLen; omega) _ (.agg (V1 g gm)) _ rfl rfl (keyOf_int_mk Try.underlying5 (by decide)) _ [] (RV_1 g gm) ?_; intro x1 o_ g_; have n0_ := Aside0.mk o_; have n1_ := Aside0.mk (HB.out.grown g_ HB.out.size (fun j hj => by cases hj; exact Nat.le_refl _)); clear O HB o_ g_; have O := n0_; have HB := n1_; clear n0_ n1_; have k0 : x1.cell? ⟨gf, 0, none⟩ = some (.pointer (some ⟨g, 0, none⟩)) := (blk_cell (blk_below HFB.out HB.out) 0).trans rfl; have k1 : x1.cell? ⟨gf, 1, none⟩ = some (.pointer (some ⟨gm, 0, none⟩)) := (blk_cell (blk_below HFB.out HB.out) 1).trans rfl) | ((with_reducible refine gate_op (u := .insert 52 (.tmp 26) (.const (.int .u8 5)) (.tmp 41)) rfl ?_); refine ev_insert _ rfl _ _ _ 52 rfl 5 51 lawk Try.underlying52 (RV g gm) w4.heap.size 2 _ rfl O.out (by unfold maxLen; omega) _ (.agg (V5 g gm)) _ rfl rfl (keyOf_int_mk Try.underlying5 (by decide)) _ [] (RV_5 g gm) ?_; intro x2 o_ g_; have n0_ := Aside0.mk o_; have n1_ := Aside0.mk (HB.out.grown g_ HB.out.size (fun j hj => by cases hj; exact Nat.le_refl _)); clear O HB o_ g_; have O := n0_; have HB := n1_; clear n0_ n1_; have k0 : x2.cell? ⟨gf, 0, none⟩ = some (.pointer (some ⟨g, 0, none⟩)) := (blk_cell (blk_below HFB.out HB.out) 0).trans rfl; have k1 : x2.cell? ⟨gf, 1, none⟩ = some (.pointer (some ⟨gm, 0, none⟩)) := (blk_cell (blk_below HFB.out HB.out) 1).trans rfl) | ((with_reducible refine gate_op (u := .insert 52 (.tmp 26) (.const (.int .u8 15)) (.tmp 46)) rfl ?_); refine ev_insert _ rfl _ _ _ 52 rfl 5 51 lawk Try.underlying52 (RV g gm) w4.heap.size 3 _ rfl O.out (by unfold maxLen; omega) _ (.agg (V15 g gm)) _ rfl rfl (keyOf_int_mk Try.underlying5 (by decide)) _ [] (RV_15 g gm) ?_; intro x3 o_ g_; have n0_ := Aside0.mk o_; have n1_ := Aside0.mk (HB.out.grown g_ HB.out.size (fun j hj => by cases hj; exact Nat.le_refl _)); clear O HB o_ g_; have O := n0_; have HB := n1_; clear n0_ n1_; have k0 : x3.cell? ⟨gf, 0, none⟩ = some (.pointer (some ⟨g, 0, none⟩)) := (blk_cell (blk_below HFB.out HB.out) 0).trans rfl; have k1 : x3.cell? ⟨gf, 1, none⟩ = some (.pointer (some ⟨gm, 0, none⟩)) := (blk_cell (blk_below HFB.out HB.out) 1).trans rfl))
  clear k0 k1
  have HKW := Aside0.mk (show (Lit.int .u8 (2)).wf = true from by decide)
  have lk : (Instr.lookup 52 (.map (some w4.heap.size)) (.int .u8 (2)) true).run Try.prog x3 = .ok (.tuple #[.agg (V1 g gm), .bool true]) x3 := by
    have h := look_p O.out (2) HKW.out
    exact h
  have n0_ := Aside0.mk (PS.St.below HP.out HB.out)
  have n1_ := Aside0.mk (blk_below HFB.out HB.out)
  clear HP HFB HB O
  have HP := n0_
  have HFB := n1_
  clear n0_ n1_
  go_upto_region 7 with (first | ((with_reducible refine gate_dst (N := 11) rfl ?_); refine ev_var2 (y := .tmp 52) (cx := V1 g gm) (zc := VZ) 51 (fun W => run_alloc_pair _ _ rfl W) rfl rfl rfl rfl rfl (by kernel_rfl) (by simp [V1, V5, V15, VZ, Value.oneCell']) rfl rfl ?_; intro gv w5 hg_ h1_ hb_; have HVB := Aside0.mk h1_; have n0_ := Aside0.mk (PS.St.below HP.out hb_); have n1_ := Aside0.mk (blk_below HFB.out hb_); clear HP HFB; have HP := n0_; have HFB := n1_; clear n0_ n1_ h1_ hb_ hg_))
  clear lk hmm
  go_upto_region 9 with (fail)
  have kv : w5.cell? ⟨gv, 1, none⟩ = some (.func (.func 22) #[.agg #[.pointer (some ⟨g, 0, none⟩), .pointer (some ⟨gm, 0, none⟩)]] #[]) := (blk_cell HVB.out 1).trans rfl
  have n0_ := Aside0.mk (PS.Sk.start HP.out)
  clear HP
  have HP := n0_
  clear n0_
  obtain ⟨m0, hm0⟩ : ∃ z, z = ({ zeroM with code := 2 } : Msg) := ⟨_, rfl⟩
  rw [← hm0] at HP
  have HM0 := Aside0.mk hm0
  clear hm0 M NL
  go_upto_region 10 with (first | (go_at_call 22; (with_reducible refine (told_any HP.out).mono ?_); rintro en w6 ⟨rfl, hp_⟩; obtain ⟨cb, e_⟩ : ∃ z, z = toldR m0 ⟨l, false, 0⟩ := ⟨_, rfl⟩; rw [← e_] at hp_; obtain ⟨c9, m9⟩ := cb; have EB := Aside0.mk e_; clear e_; have n0_ := Aside0.mk hp_; clear HP hp_; have HP := n0_; clear n0_))
  clear kv
  replace HP : Aside0 (PS.Sk w5 w0 gr g gm w6 c9 m9) := HP
  have k0 : w6.cell? ⟨gf, 0, none⟩ = some (.pointer (some ⟨g, 0, none⟩)) := (blk_cell (PS.Sk.blk HP.out HFB.out HF1.out HF2.out) 0).trans rfl
  go_upto_region 11 with (first | (go_at_call 26; (with_reducible refine (PS.Sk.fin HP.out).mono ?_); rintro en x1 ⟨rfl, hp_⟩; obtain ⟨c10, ec_⟩ : ∃ z, z = c9.fin := ⟨_, rfl⟩; rw [← ec_] at hp_; have Ec10 := Aside0.mk ec_; clear ec_; have n0_ := Aside0.mk hp_; clear HP hp_; have HP := n0_; clear n0_))
  clear k0
  have k0 : x1.cell? ⟨gf, 0, none⟩ = some (.pointer (some ⟨g, 0, none⟩)) := (blk_cell (PS.Sk.blk HP.out HFB.out HF1.out HF2.out) 0).trans rfl
  go_upto_region 12 with (first | (go_at_call 27; (with_reducible refine (PS.Sk.err HP.out).mono ?_); rintro en x2 ⟨rfl, hp_⟩; have n0_ := Aside0.mk hp_; clear HP hp_; have HP := n0_; clear n0_))
  clear k0
  have n0_ := Aside0.mk HP.out.st
  clear HP HFB HVB
  have HP := n0_
  clear n0_
  have he1 : parse 1 2 l = if c10.e ≠ 0 then (zeroM, c10.e) else (m9, 0) := by
    have e2 : bodyR 1 2 { zeroM with code := 2 } (cu l) = (c9, m9) := by rw [EB.out, HM0.out]; rfl
    unfold parse
    rw [if_neg (by decide), if_neg (by decide), e2, Ec10.out]
  by_cases h9 : c10.e = 0
  · have ex_ : parse 1 2 l = (m9, 0) := by rw [he1, if_neg (fun h => h h9)]
    have EX := Aside0.mk ex_
    have g1 : (c10.e != 0) = false := by rw [h9]; rfl
    have g2 : (c10.e == 0) = true := by rw [h9]; rfl
    clear h9 ex_ he1
    obtain ⟨cx, h_, hz_, hm_⟩ := PS.St.held2 HP.out
    have H := Aside0.mk h_
    have HZ := Aside0.mk hz_
    have HM := Aside0.mk hm_
    have HB := Aside0.mk HP.out.b
    clear h_ hz_ hm_ HP
    go_wp2_with (first | ((with_reducible refine gate_dst (N := 71) rfl ?_); refine ev_load (x := .tmp 8) rfl rfl rfl H.out (i := 1) rfl (HZ.out) ?_) | ((with_reducible refine gate_op (u := .store 30 (.tmp 6) (.tmp 71)) rfl ?_); refine ev_store rfl rfl rfl rfl H.out (i := 0) rfl rfl (HM.out _ ⟨rfl, rfl, rfl, Kept.refl _ _⟩) ?_; intro x91 h3_ h4_; have HE := Aside0.mk (HM.out _ h4_); clear h4_; have n0_ := Aside0.mk (h3_); clear H; have H := n0_; clear n0_; clear h3_))
    refine bodyPost_ret (results_ct rfl _ _ gr 30 _ (0, 0) _ rfl (H.out.at 0 rfl) Try.underlying30 rfl (msg_info (HZ.out))) rfl (by rw [EX.out]; exact ⟨_, rfl, HE.out, H.out.b⟩)
  · have ex_ : parse 1 2 l = (zeroM, c10.e) := by rw [he1, if_pos h9]
    have EX := Aside0.mk ex_
    have g1 : (c10.e != 0) = true := by simpa using h9
    have g2 : (c10.e == 0) = false := by simpa using h9
    clear h9 ex_ he1
    have H := Aside0.mk (PS.St.held HP.out)
    clear HP
    go_wp2_with (first | ((with_reducible refine gate_dst (N := 69) rfl ?_); refine ev_build (zeroC) rfl (by go_simp; first | rfl | done) ?_; intro cx hcx_; have M := Aside0.mk (show ∀ W, IsMsg W cx _ from fun W => by rw [hcx_]; exact zero_is W); clear hcx_) | ((with_reducible refine gate_op (u := .store 30 (.tmp 6) (.tmp 69)) rfl ?_); refine ev_store rfl rfl rfl rfl H.out (i := 0) rfl (rfl) (M.out w0) ?_; intro x90 h3_ h4_; have n0_ := Aside0.mk (h3_); clear H; have H := n0_; clear n0_; clear h3_ h4_))
    refine bodyPost_ret (results_ct rfl _ _ gr 30 _ (0, 0) _ rfl (H.out.at 0 rfl) Try.underlying30 rfl (msg_info ((M.out w0).size))) rfl (by rw [EX.out]; exact ⟨_, rfl, M.out _, H.out.b⟩)
theorem parse_1_5 {A : Option Addr} {c : Nat} {l : List Int} {w0 : World} (hr : Kd.C (Kd.int .u8) w0 A l.length l) (hc : l.length ≤ c) (hs : l.length ≤ 1000000) (hb : isBytes l) :
    Calls Try.prog 13 #[.int .i64 1, .int .u8 5, .slice A l.length c] w0 fun en w' => ∃ cx, en = .returned (.tuple #[.agg cx, .int .i64 (parse 1 5 l).2]) ∧ IsMsg w' cx (parse 1 5 l).1 ∧ Below w0.heap.size w0 w' := by
  have HR := Aside0.mk hr
  have HC := Aside0.mk hc
  have HS := Aside0.mk hs
  have HBB := Aside0.mk hb
  clear hr hc hs hb
  have hmm := @run_makeMap Try.prog
  go_enter Try.func13, Try.ntmps13
  go_upto_region 3 with (first | ((with_reducible refine gate_dst (N := 6) rfl ?_); refine ev_alloc rfl rfl ?_; intro gr w1 hg_ h1_ h2_; have HG := Aside0.mk hg_; have H1 := Aside0.mk h1_; have H2 := Aside0.mk h2_; clear hg_ h1_ h2_))
  go_upto_region 4 with (first | ((with_reducible refine gate_dst (N := 22) rfl ?_); refine ev_build ((zeroC.setIfInBounds 0 (.int .u8 (5)))) rfl (by go_simp; first | rfl | done) ?_; intro cx hcx_; have M := Aside0.mk (show ∀ W, IsMsg W cx _ from fun W => by rw [hcx_]; exact (fun W => set_code (zero_is W) (v := 5) (by decide)) W); have NL := Aside0.mk (show NilL cx by rw [hcx_]; exact PS.zero_nil.set (by decide)); clear hcx_) | ((with_reducible refine gate_dst (N := 8) rfl ?_); refine ev_var (y := .tmp 22) rfl rfl rfl rfl rfl (M.out w0) rfl rfl ?_; intro gm w2 hg_ h1_ hb_; have HM1 := Aside0.mk hg_; have HM2 := Aside0.mk h1_; have HM3 := Aside0.mk hb_; clear h1_ hb_ hg_))
  go_upto_region 5 with (first | (go_at_call 20; (with_reducible refine (p_new A c l _ (Kd.C_below HR.out (H2.out.trans (HM3.out.mono H2.out.size))) HC.out HS.out HBB.out).mono ?_); rintro en w3 ⟨g, rfl, q1_, q2_, q3_, q4_⟩; have HP := Aside0.mk (St_first HG.out H1.out H2.out HM1.out HM2.out HM3.out M.out NL.out q1_ q2_ q3_); clear q1_ q2_ q3_ q4_ H1 H2 HG HM1 HM2 HM3) | ((with_reducible refine gate_dst (N := 9) rfl ?_); refine ev_var2 (y := .tmp 25) (cx := #[.pointer (some ⟨g, 0, none⟩), .pointer (some ⟨gm, 0, none⟩)]) (zc := #[.pointer none, .pointer none]) 50 (fun W => run_alloc_form _ _ rfl W) rfl rfl rfl rfl rfl (by kernel_rfl) (by simp [Value.oneCell']) rfl rfl ?_; intro gf w4 hg_ h1_ hb_; have hl_ := PS.Sk.lt (PS.Sk.start HP.out); have HF1 := Aside0.mk (show gf ≠ g from by omega); have HF2 := Aside0.mk (show gf ≠ gm from by omega); have HFB := Aside0.mk h1_; have n0_ := Aside0.mk (PS.St.below HP.out hb_); clear HP; have HP := n0_; clear n0_ h1_ hb_ hg_ hl_))
  have k0 : w4.cell? ⟨gf, 0, none⟩ = some (.pointer (some ⟨g, 0, none⟩)) := (blk_cell HFB.out 0).trans rfl
  have k1 : w4.cell? ⟨gf, 1, none⟩ = some (.pointer (some ⟨gm, 0, none⟩)) := (blk_cell HFB.out 1).trans rfl
  have O : Aside0 ((w4.alloc (.map #[] 0)).ownsMap Try.prog 5 (RV g gm) w4.heap.size 0 D0) := ⟨World.ownsMap_made _ _ _ _⟩
  have HB := Aside0.mk ((Below.refl w4.heap.size w4).alloc (Nat.le_refl _) (.map #[] 0))
  replace k0 : (w4.alloc (.map #[] 0)).cell? ⟨gf, 0, none⟩ = some (.pointer (some ⟨g, 0, none⟩)) := (blk_cell (blk_below HFB.out HB.out) 0).trans rfl
  replace k1 : (w4.alloc (.map #[] 0)).cell? ⟨gf, 1, none⟩ = some (.pointer (some ⟨gm, 0, none⟩)) := (blk_cell (blk_below HFB.out HB.out) 1).trans rfl
  go_upto_region 6 with (first | ((with_reducible refine gate_op (u := .insert 52 (.tmp 26) (.const (.int .u8 1)) (.tmp 31)) rfl ?_); refine ev_insert _ rfl _ _ _ 52 rfl 5 51 lawk Try.underlying52 (RV g gm) w4.heap.size 0 _ rfl O.out (by unfold maxLen; omega) _ (.agg (V1 g gm)) _ rfl rfl (keyOf_int_mk Try.underlying5 (by decide)) _ [] (RV_1 g gm) ?_; intro x0 o_ g_; have n0_ := Aside0.mk o_; have n1_ := Aside0.mk (HB.out.grown g_ HB.out.size (fun j hj => by cases hj; exact Nat.le_refl _)); clear O HB o_ g_; have O := n0_; have HB := n1_; clear n0_ n1_; have k0 : x0.cell? ⟨gf, 0, none⟩ = some (.pointer (some ⟨g, 0, none⟩)) := (blk_cell (blk_below HFB.out HB.out) 0).trans rfl; have k1 : x0.cell? ⟨gf, 1, none⟩ = some (.pointer (some ⟨gm, 0, none⟩)) := (blk_cell (blk_below HFB.out HB.out) 1).trans rfl) | ((with_reducible refine gate_op (u := .insert 52 (.tmp 26) (.const (.int .u8 2)) (.tmp 36)) rfl ?_); refine ev_insert _ rfl _ _ _ 52 rfl 5 51 lawk Try.underlying52 (RV g gm) w4.heap.size 1 _ rfl O.out (by unfold maxLen; omega) _ (.agg (V1 g gm)) _ rfl rfl (keyOf_int_mk Try.underlying5 (by decide)) _ [] (RV_1 g gm) ?_; intro x1 o_ g_; have n0_ := Aside0.mk o_; have n1_ := Aside0.mk (HB.out.grown g_ HB.out.size (fun j hj => by cases hj; exact Nat.le_refl _)); clear O HB o_ g_; have O := n0_; have HB := n1_; clear n0_ n1_; have k0 : x1.cell? ⟨gf, 0, none⟩ = some (.pointer (some ⟨g, 0, none⟩)) := (blk_cell (blk_below HFB.out HB.out) 0).trans rfl; have k1 : x1.cell? ⟨gf, 1, none⟩ = some (.pointer (some ⟨gm, 0, none⟩)) := (blk_cell (blk_below HFB.out HB.out) 1).trans rfl) | ((with_reducible refine gate_op (u := .insert 52 (.tmp 26) (.const (.int .u8 5)) (.tmp 41)) rfl ?_); refine ev_insert _ rfl _ _ _ 52 rfl 5 51 lawk Try.underlying52 (RV g gm) w4.heap.size 2 _ rfl O.out (by unfold maxLen; omega) _ (.agg (V5 g gm)) _ rfl rfl (keyOf_int_mk Try.underlying5 (by decide)) _ [] (RV_5 g gm) ?_; intro x2 o_ g_; have n0_ := Aside0.mk o_; have n1_ := Aside0.mk (HB.out.grown g_ HB.out.size (fun j hj => by cases hj; exact Nat.le_refl _)); clear O HB o_ g_; have O := n0_; have HB := n1_; clear n0_ n1_; have k0 : x2.cell? ⟨gf, 0, none⟩ = some (.pointer (some ⟨g, 0, none⟩)) := (blk_cell (blk_below HFB.out HB.out) 0).trans rfl; have k1 : x2.cell? ⟨gf, 1, none⟩ = some (.pointer (some ⟨gm, 0, none⟩)) := (blk_cell (blk_below HFB.out HB.out) 1).trans rfl) | ((with_reducible refine gate_op (u := .insert 52 (.tmp 26) (.const (.int .u8 15)) (.tmp 46)) rfl ?_); refine ev_insert _ rfl _ _ _ 52 rfl 5 51 lawk Try.underlying52 (RV g gm) w4.heap.size 3 _ rfl O.out (by unfold maxLen; omega) _ (.agg (V15 g gm)) _ rfl rfl (keyOf_int_mk Try.underlying5 (by decide)) _ [] (RV_15 g gm) ?_; intro x3 o_ g_; have n0_ := Aside0.mk o_; have n1_ := Aside0.mk (HB.out.grown g_ HB.out.size (fun j hj => by cases hj; exact Nat.le_refl _)); clear O HB o_ g_; have O := n0_; have HB := n1_; clear n0_ n1_; have k0 : x3.cell? ⟨gf, 0, none⟩ = some (.pointer (some ⟨g, 0, none⟩)) := (blk_cell (blk_below HFB.out HB.out) 0).trans rfl; have k1 : x3.cell? ⟨gf, 1, none⟩ = some (.pointer (some ⟨gm, 0, none⟩)) := (blk_cell (blk_below HFB.out HB.out) 1).trans rfl))
  clear k0 k1
  have HKW := Aside0.mk (show (Lit.int .u8 (5)).wf = true from by decide)
  have lk : (Instr.lookup 52 (.map (some w4.heap.size)) (.int .u8 (5)) true).run Try.prog x3 = .ok (.tuple #[.agg (V5 g gm), .bool true]) x3 := by
    have h := look_p O.out (5) HKW.out
    exact h
  have n0_ := Aside0.mk (PS.St.below HP.out HB.out)
  have n1_ := Aside0.mk (blk_below HFB.out HB.out)
  clear HP HFB HB O
  have HP := n0_
  have HFB := n1_
  clear n0_ n1_
  go_upto_region 7 with (first | ((with_reducible refine gate_dst (N := 11) rfl ?_); refine ev_var2 (y := .tmp 52) (cx := V5 g gm) (zc := VZ) 51 (fun W => run_alloc_pair _ _ rfl W) rfl rfl rfl rfl rfl (by kernel_rfl) (by simp [V1, V5, V15, VZ, Value.oneCell']) rfl rfl ?_; intro gv w5 hg_ h1_ hb_; have HVB := Aside0.mk h1_; have n0_ := Aside0.mk (PS.St.below HP.out hb_); have n1_ := Aside0.mk (blk_below HFB.out hb_); clear HP HFB; have HP := n0_; have HFB := n1_; clear n0_ n1_ h1_ hb_ hg_))
  clear lk hmm
  go_upto_region 9 with (fail)
  have kv : w5.cell? ⟨gv, 1, none⟩ = some (.func (.func 23) #[.agg #[.pointer (some ⟨g, 0, none⟩), .pointer (some ⟨gm, 0, none⟩)]] #[]) := (blk_cell HVB.out 1).trans rfl
  have n0_ := Aside0.mk (PS.Sk.start HP.out)
  clear HP
  have HP := n0_
  clear n0_
  obtain ⟨m0, hm0⟩ : ∃ z, z = ({ zeroM with code := 5 } : Msg) := ⟨_, rfl⟩
  rw [← hm0] at HP
  have HM0 := Aside0.mk hm0
  clear hm0 M NL
  go_upto_region 10 with (first | (go_at_call 23; (with_reducible refine (sets_any HP.out).mono ?_); rintro en w6 ⟨rfl, hp_⟩; obtain ⟨cb, e_⟩ : ∃ z, z = setsR m0 ⟨l, false, 0⟩ := ⟨_, rfl⟩; rw [← e_] at hp_; obtain ⟨c9, m9⟩ := cb; have EB := Aside0.mk e_; clear e_; have n0_ := Aside0.mk hp_; clear HP hp_; have HP := n0_; clear n0_))
  clear kv
  replace HP : Aside0 (PS.Sk w5 w0 gr g gm w6 c9 m9) := HP
  have k0 : w6.cell? ⟨gf, 0, none⟩ = some (.pointer (some ⟨g, 0, none⟩)) := (blk_cell (PS.Sk.blk HP.out HFB.out HF1.out HF2.out) 0).trans rfl
  go_upto_region 11 with (first | (go_at_call 26; (with_reducible refine (PS.Sk.fin HP.out).mono ?_); rintro en x1 ⟨rfl, hp_⟩; obtain ⟨c10, ec_⟩ : ∃ z, z = c9.fin := ⟨_, rfl⟩; rw [← ec_] at hp_; have Ec10 := Aside0.mk ec_; clear ec_; have n0_ := Aside0.mk hp_; clear HP hp_; have HP := n0_; clear n0_))
  clear k0
  have k0 : x1.cell? ⟨gf, 0, none⟩ = some (.pointer (some ⟨g, 0, none⟩)) := (blk_cell (PS.Sk.blk HP.out HFB.out HF1.out HF2.out) 0).trans rfl
  go_upto_region 12 with (first | (go_at_call 27; (with_reducible refine (PS.Sk.err HP.out).mono ?_); rintro en x2 ⟨rfl, hp_⟩; have n0_ := Aside0.mk hp_; clear HP hp_; have HP := n0_; clear n0_))
  clear k0
  have n0_ := Aside0.mk HP.out.st
  clear HP HFB HVB
  have HP := n0_
  clear n0_
  have he1 : parse 1 5 l = if c10.e ≠ 0 then (zeroM, c10.e) else (m9, 0) := by
    have e2 : bodyR 1 5 { zeroM with code := 5 } (cu l) = (c9, m9) := by rw [EB.out, HM0.out]; rfl
    unfold parse
    rw [if_neg (by decide), if_neg (by decide), e2, Ec10.out]
  by_cases h9 : c10.e = 0
  · have ex_ : parse 1 5 l = (m9, 0) := by rw [he1, if_neg (fun h => h h9)]
    have EX := Aside0.mk ex_
    have g1 : (c10.e != 0) = false := by rw [h9]; rfl
    have g2 : (c10.e == 0) = true := by rw [h9]; rfl
    clear h9 ex_ he1
    obtain ⟨cx, h_, hz_, hm_⟩ := PS.St.held2 HP.out
    have H := Aside0.mk h_
    have HZ := Aside0.mk hz_
    have HM := Aside0.mk hm_
    have HB := Aside0.mk HP.out.b
    clear h_ hz_ hm_ HP
    go_wp2_with (first | ((with_reducible refine gate_dst (N := 71) rfl ?_); refine ev_load (x := .tmp 8) rfl rfl rfl H.out (i := 1) rfl (HZ.out) ?_) | ((with_reducible refine gate_op (u := .store 30 (.tmp 6) (.tmp 71)) rfl ?_); refine ev_store rfl rfl rfl rfl H.out (i := 0) rfl rfl (HM.out _ ⟨rfl, rfl, rfl, Kept.refl _ _⟩) ?_; intro x91 h3_ h4_; have HE := Aside0.mk (HM.out _ h4_); clear h4_; have n0_ := Aside0.mk (h3_); clear H; have H := n0_; clear n0_; clear h3_))
    refine bodyPost_ret (results_ct rfl _ _ gr 30 _ (0, 0) _ rfl (H.out.at 0 rfl) Try.underlying30 rfl (msg_info (HZ.out))) rfl (by rw [EX.out]; exact ⟨_, rfl, HE.out, H.out.b⟩)
  · have ex_ : parse 1 5 l = (zeroM, c10.e) := by rw [he1, if_pos h9]
    have EX := Aside0.mk ex_
    have g1 : (c10.e != 0) = true := by simpa using h9
    have g2 : (c10.e == 0) = false := by simpa using h9
    clear h9 ex_ he1
    have H := Aside0.mk (PS.St.held HP.out)
    clear HP
    go_wp2_with (first | ((with_reducible refine gate_dst (N := 69) rfl ?_); refine ev_build (zeroC) rfl (by go_simp; first | rfl | done) ?_; intro cx hcx_; have M := Aside0.mk (show ∀ W, IsMsg W cx _ from fun W => by rw [hcx_]; exact zero_is W); clear hcx_) | ((with_reducible refine gate_op (u := .store 30 (.tmp 6) (.tmp 69)) rfl ?_); refine ev_store rfl rfl rfl rfl H.out (i := 0) rfl (rfl) (M.out w0) ?_; intro x90 h3_ h4_; have n0_ := Aside0.mk (h3_); clear H; have H := n0_; clear n0_; clear h3_ h4_))
    refine bodyPost_ret (results_ct rfl _ _ gr 30 _ (0, 0) _ rfl (H.out.at 0 rfl) Try.underlying30 rfl (msg_info ((M.out w0).size))) rfl (by rw [EX.out]; exact ⟨_, rfl, M.out _, H.out.b⟩)
theorem parse_1_15 {A : Option Addr} {c : Nat} {l : List Int} {w0 : World} (hr : Kd.C (Kd.int .u8) w0 A l.length l) (hc : l.length ≤ c) (hs : l.length ≤ 1000000) (hb : isBytes l) :
    Calls Try.prog 13 #[.int .i64 1, .int .u8 15, .slice A l.length c] w0 fun en w' => ∃ cx, en = .returned (.tuple #[.agg cx, .int .i64 (parse 1 15 l).2]) ∧ IsMsg w' cx (parse 1 15 l).1 ∧ Below w0.heap.size w0 w' := by
  have HR := Aside0.mk hr
  have HC := Aside0.mk hc
  have HS := Aside0.mk hs
  have HBB := Aside0.mk hb
  clear hr hc hs hb
  have hmm := @run_makeMap Try.prog
  go_enter Try.func13, Try.ntmps13
  go_upto_region 3 with (first | ((with_reducible refine gate_dst (N := 6) rfl ?_); refine ev_alloc rfl rfl ?_; intro gr w1 hg_ h1_ h2_; have HG := Aside0.mk hg_; have H1 := Aside0.mk h1_; have H2 := Aside0.mk h2_; clear hg_ h1_ h2_))
  go_upto_region 4 with (first | ((with_reducible refine gate_dst (N := 22) rfl ?_); refine ev_build ((zeroC.setIfInBounds 0 (.int .u8 (15)))) rfl (by go_simp; first | rfl | done) ?_; intro cx hcx_; have M := Aside0.mk (show ∀ W, IsMsg W cx _ from fun W => by rw [hcx_]; exact (fun W => set_code (zero_is W) (v := 15) (by decide)) W); have NL := Aside0.mk (show NilL cx by rw [hcx_]; exact PS.zero_nil.set (by decide)); clear hcx_) | ((with_reducible refine gate_dst (N := 8) rfl ?_); refine ev_var (y := .tmp 22) rfl rfl rfl rfl rfl (M.out w0) rfl rfl ?_; intro gm w2 hg_ h1_ hb_; have HM1 := Aside0.mk hg_; have HM2 := Aside0.mk h1_; have HM3 := Aside0.mk hb_; clear h1_ hb_ hg_))
  go_upto_region 5 with (first | (go_at_call 20; (with_reducible refine (p_new A c l _ (Kd.C_below HR.out (H2.out.trans (HM3.out.mono H2.out.size))) HC.out HS.out HBB.out).mono ?_); rintro en w3 ⟨g, rfl, q1_, q2_, q3_, q4_⟩; have HP := Aside0.mk (St_first HG.out H1.out H2.out HM1.out HM2.out HM3.out M.out NL.out q1_ q2_ q3_); clear q1_ q2_ q3_ q4_ H1 H2 HG HM1 HM2 HM3) | ((with_reducible refine gate_dst (N := 9) rfl ?_); refine ev_var2 (y := .tmp 25) (cx := #[.pointer (some ⟨g, 0, none⟩), .pointer (some ⟨gm, 0, none⟩)]) (zc := #[.pointer none, .pointer none]) 50 (fun W => run_alloc_form _ _ rfl W) rfl rfl rfl rfl rfl (by kernel_rfl) (by simp [Value.oneCell']) rfl rfl ?_; intro gf w4 hg_ h1_ hb_; have hl_ := PS.Sk.lt (PS.Sk.start HP.out); have HF1 := Aside0.mk (show gf ≠ g from by omega); have HF2 := Aside0.mk (show gf ≠ gm from by omega); have HFB := Aside0.mk h1_; have n0_ := Aside0.mk (PS.St.below HP.out hb_); clear HP; have HP := n0_; clear n0_ h1_ hb_ hg_ hl_))
  have k0 : w4.cell? ⟨gf, 0, none⟩ = some (.pointer (some ⟨g, 0, none⟩)) := (blk_cell HFB.out 0).trans rfl
  have k1 : w4.cell? ⟨gf, 1, none⟩ = some (.pointer (some ⟨gm, 0, none⟩)) := (blk_cell HFB.out 1).trans rfl
  have O : Aside0 ((w4.alloc (.map #[] 0)).ownsMap Try.prog 5 (RV g gm) w4.heap.size 0 D0) := ⟨World.ownsMap_made _ _ _ _⟩
  have HB := Aside0.mk ((Below.refl w4.heap.size w4).alloc (Nat.le_refl _) (.map #[] 0))
  replace k0 : (w4.alloc (.map #[] 0)).cell? ⟨gf, 0, none⟩ = some (.pointer (some ⟨g, 0, none⟩)) := (blk_cell (blk_below HFB.out HB.out) 0).trans rfl
  replace k1 : (w4.alloc (.map #[] 0)).cell? ⟨gf, 1, none⟩ = some (.pointer (some ⟨gm, 0, none⟩)) := (blk_cell (blk_below HFB.out HB.out) 1).trans rfl
  go_upto_region 6 with (first | ((with_reducible refine gate_op (u := .insert 52 (.tmp 26) (.const (.int .u8 1)) (.tmp 31)) rfl ?_); refine ev_insert _ rfl _ _ _ 52 rfl 5 51 lawk Try.underlying52 (RV g gm) w4.heap.size 0 _ rfl O.out (by unfold maxLen; omega) _ (.agg (V1 g gm)) _ rfl rfl (keyOf_int_mk Try.underlying5 (by decide)) _ [] (RV_1 g gm) ?_; intro x0 o_ g_; have n0_ := Aside0.mk o_; have n1_ := Aside0.mk (HB.out.grown g_ HB.out.size (fun j hj => by cases hj; exact Nat.le_refl _)); clear O HB o_ g_; have O := n0_; have HB := n1_; clear n0_ n1_; have k0 : x0.cell? ⟨gf, 0, none⟩ = some (.pointer (some ⟨g, 0, none⟩)) := (blk_cell (blk_below HFB.out HB.out) 0).trans rfl; have k1 : x0.cell? ⟨gf, 1, none⟩ = some (.pointer (some ⟨gm, 0, none⟩)) := (blk_cell (blk_below HFB.out HB.out) 1).trans rfl) | ((with_reducible refine gate_op (u := .insert 52 (.tmp 26) (.const (.int .u8 2)) (.tmp 36)) rfl ?_); refine ev_insert _ rfl _ _ _ 52 rfl 5 51 lawk Try.underlying52 (RV g gm) w4.heap.size 1 _ rfl O.out (by unfold maxLen; omega) _ (.agg (V1 g gm)) _ rfl rfl (keyOf_int_mk Try.underlying5 (by decide)) _ [] (RV_1 g gm) ?_; intro x1 o_ g_; have n0_ := Aside0.mk o_; have n1_ := Aside0.mk (HB.out.grown g_ HB.out.size (fun j hj => by cases hj; exact Nat.le_refl _)); clear O HB o_ g_; have O := n0_; have HB := n1_; clear n0_ n1_; have k0 : x1.cell? ⟨gf, 0, none⟩ = some (.pointer (some ⟨g, 0, none⟩)) := (blk_cell (blk_below HFB.out HB.out) 0).trans rfl; have k1 : x1.cell? ⟨gf, 1, none⟩ = some (.pointer (some ⟨gm, 0, none⟩)) := (blk_cell (blk_below HFB.out HB.out) 1).trans rfl) | ((with_reducible refine gate_op (u := .insert 52 (.tmp 26) (.const (.int .u8 5)) (.tmp 41)) rfl ?_); refine ev_insert _ rfl _ _ _ 52 rfl 5 51 lawk Try.underlying52 (RV g gm) w4.heap.size 2 _ rfl O.out (by unfold maxLen; omega) _ (.agg (V5 g gm)) _ rfl rfl (keyOf_int_mk Try.underlying5 (by decide)) _ [] (RV_5 g gm) ?_; intro x2 o_ g_; have n0_ := Aside0.mk o_; have n1_ := Aside0.mk (HB.out.grown g_ HB.out.size (fun j hj => by cases hj; exact Nat.le_refl _)); clear O HB o_ g_; have O := n0_; have HB := n1_; clear n0_ n1_; have k0 : x2.cell? ⟨gf, 0, none⟩ = some (.pointer (some ⟨g, 0, none⟩)) := (blk_cell (blk_below HFB.out HB.out) 0).trans rfl; have k1 : x2.cell? ⟨gf, 1, none⟩ = some (.pointer (some ⟨gm, 0, none⟩)) := (blk_cell (blk_below HFB.out HB.out) 1).trans rfl) | ((with_reducible refine gate_op (u := .insert 52 (.tmp 26) (.const (.int .u8 15)) (.tmp 46)) rfl ?_); refine ev_insert _ rfl _ _ _ 52 rfl 5 51 lawk Try.underlying52 (RV g gm) w4.heap.size 3 _ rfl O.out (by unfold maxLen; omega) _ (.agg (V15 g gm)) _ rfl rfl (keyOf_int_mk Try.underlying5 (by decide)) _ [] (RV_15 g gm) ?_; intro x3 o_ g_; have n0_ := Aside0.mk o_; have n1_ := Aside0.mk (HB.out.grown g_ HB.out.size (fun j hj => by cases hj; exact Nat.le_refl _)); clear O HB o_ g_; have O := n0_; have HB := n1_; clear n0_ n1_; have k0 : x3.cell? ⟨gf, 0, none⟩ = some (.pointer (some ⟨g, 0, none⟩)) := (blk_cell (blk_below HFB.out HB.out) 0).trans rfl; have k1 : x3.cell? ⟨gf, 1, none⟩ = some (.pointer (some ⟨gm, 0, none⟩)) := (blk_cell (blk_below HFB.out HB.out) 1).trans rfl))
  clear k0 k1
  have HKW := Aside0.mk (show (Lit.int .u8 (15)).wf = true from by decide)
  have lk : (Instr.lookup 52 (.map (some w4.heap.size)) (.int .u8 (15)) true).run Try.prog x3 = .ok (.tuple #[.agg (V15 g gm), .bool true]) x3 := by
    have h := look_p O.out (15) HKW.out
    exact h
  have n0_ := Aside0.mk (PS.St.below HP.out HB.out)
  have n1_ := Aside0.mk (blk_below HFB.out HB.out)
  clear HP HFB HB O
  have HP := n0_
  have HFB := n1_
  clear n0_ n1_
  go_upto_region 7 with (first | ((with_reducible refine gate_dst (N := 11) rfl ?_); refine ev_var2 (y := .tmp 52) (cx := V15 g gm) (zc := VZ) 51 (fun W => run_alloc_pair _ _ rfl W) rfl rfl rfl rfl rfl (by kernel_rfl) (by simp [V1, V5, V15, VZ, Value.oneCell']) rfl rfl ?_; intro gv w5 hg_ h1_ hb_; have HVB := Aside0.mk h1_; have n0_ := Aside0.mk (PS.St.below HP.out hb_); have n1_ := Aside0.mk (blk_below HFB.out hb_); clear HP HFB; have HP := n0_; have HFB := n1_; clear n0_ n1_ h1_ hb_ hg_))
  clear lk hmm
  go_upto_region 9 with (fail)
  have kv : w5.cell? ⟨gv, 1, none⟩ = some (.func (.func 25) #[.agg #[.pointer (some ⟨g, 0, none⟩), .pointer (some ⟨gm, 0, none⟩)]] #[]) := (blk_cell HVB.out 1).trans rfl
  have n0_ := Aside0.mk (PS.Sk.start HP.out)
  clear HP
  have HP := n0_
  clear n0_
  obtain ⟨m0, hm0⟩ : ∃ z, z = ({ zeroM with code := 15 } : Msg) := ⟨_, rfl⟩
  rw [← hm0] at HP
  have HM0 := Aside0.mk hm0
  clear hm0 M NL
  go_upto_region 10 with (first | (go_at_call 25; (with_reducible refine (done_any HP.out).mono ?_); rintro en w6 ⟨rfl, hp_⟩; obtain ⟨cb, e_⟩ : ∃ z, z = spanR 1968 m0 ⟨l, false, 0⟩ := ⟨_, rfl⟩; rw [← e_] at hp_; obtain ⟨c9, m9⟩ := cb; have EB := Aside0.mk e_; clear e_; have n0_ := Aside0.mk hp_; clear HP hp_; have HP := n0_; clear n0_))
  clear kv
  replace HP : Aside0 (PS.Sk w5 w0 gr g gm w6 c9 m9) := HP
  have k0 : w6.cell? ⟨gf, 0, none⟩ = some (.pointer (some ⟨g, 0, none⟩)) := (blk_cell (PS.Sk.blk HP.out HFB.out HF1.out HF2.out) 0).trans rfl
  go_upto_region 11 with (first | (go_at_call 26; (with_reducible refine (PS.Sk.fin HP.out).mono ?_); rintro en x1 ⟨rfl, hp_⟩; obtain ⟨c10, ec_⟩ : ∃ z, z = c9.fin := ⟨_, rfl⟩; rw [← ec_] at hp_; have Ec10 := Aside0.mk ec_; clear ec_; have n0_ := Aside0.mk hp_; clear HP hp_; have HP := n0_; clear n0_))
  clear k0
  have k0 : x1.cell? ⟨gf, 0, none⟩ = some (.pointer (some ⟨g, 0, none⟩)) := (blk_cell (PS.Sk.blk HP.out HFB.out HF1.out HF2.out) 0).trans rfl
  go_upto_region 12 with (first | (go_at_call 27; (with_reducible refine (PS.Sk.err HP.out).mono ?_); rintro en x2 ⟨rfl, hp_⟩; have n0_ := Aside0.mk hp_; clear HP hp_; have HP := n0_; clear n0_))
  clear k0
  have n0_ := Aside0.mk HP.out.st
  clear HP HFB HVB
  have HP := n0_
  clear n0_
  have he1 : parse 1 15 l = if c10.e ≠ 0 then (zeroM, c10.e) else (m9, 0) := by
    have e2 : bodyR 1 15 { zeroM with code := 15 } (cu l) = (c9, m9) := by rw [EB.out, HM0.out]; rfl
    unfold parse
    rw [if_neg (by decide), if_neg (by decide), e2, Ec10.out]
  by_cases h9 : c10.e = 0
  · have ex_ : parse 1 15 l = (m9, 0) := by rw [he1, if_neg (fun h => h h9)]
    have EX := Aside0.mk ex_
    have g1 : (c10.e != 0) = false := by rw [h9]; rfl
    have g2 : (c10.e == 0) = true := by rw [h9]; rfl
    clear h9 ex_ he1
    obtain ⟨cx, h_, hz_, hm_⟩ := PS.St.held2 HP.out
    have H := Aside0.mk h_
    have HZ := Aside0.mk hz_
    have HM := Aside0.mk hm_
    have HB := Aside0.mk HP.out.b
    clear h_ hz_ hm_ HP
    go_wp2_with (first | ((with_reducible refine gate_dst (N := 71) rfl ?_); refine ev_load (x := .tmp 8) rfl rfl rfl H.out (i := 1) rfl (HZ.out) ?_) | ((with_reducible refine gate_op (u := .store 30 (.tmp 6) (.tmp 71)) rfl ?_); refine ev_store rfl rfl rfl rfl H.out (i := 0) rfl rfl (HM.out _ ⟨rfl, rfl, rfl, Kept.refl _ _⟩) ?_; intro x91 h3_ h4_; have HE := Aside0.mk (HM.out _ h4_); clear h4_; have n0_ := Aside0.mk (h3_); clear H; have H := n0_; clear n0_; clear h3_))
    refine bodyPost_ret (results_ct rfl _ _ gr 30 _ (0, 0) _ rfl (H.out.at 0 rfl) Try.underlying30 rfl (msg_info (HZ.out))) rfl (by rw [EX.out]; exact ⟨_, rfl, HE.out, H.out.b⟩)
  · have ex_ : parse 1 15 l = (zeroM, c10.e) := by rw [he1, if_pos h9]
    have EX := Aside0.mk ex_
    have g1 : (c10.e != 0) = true := by simpa using h9
    have g2 : (c10.e == 0) = false := by simpa using h9
    clear h9 ex_ he1
    have H := Aside0.mk (PS.St.held HP.out)
    clear HP
    go_wp2_with (first | ((with_reducible refine gate_dst (N := 69) rfl ?_); refine ev_build (zeroC) rfl (by go_simp; first | rfl | done) ?_; intro cx hcx_; have M := Aside0.mk (show ∀ W, IsMsg W cx _ from fun W => by rw [hcx_]; exact zero_is W); clear hcx_) | ((with_reducible refine gate_op (u := .store 30 (.tmp 6) (.tmp 69)) rfl ?_); refine ev_store rfl rfl rfl rfl H.out (i := 0) rfl (rfl) (M.out w0) ?_; intro x90 h3_ h4_; have n0_ := Aside0.mk (h3_); clear H; have H := n0_; clear n0_; clear h3_ h4_))
    refine bodyPost_ret (results_ct rfl _ _ gr 30 _ (0, 0) _ rfl (H.out.at 0 rfl) Try.underlying30 rfl (msg_info ((M.out w0).size))) rfl (by rw [EX.out]; exact ⟨_, rfl, M.out _, H.out.b⟩)
theorem parse_any {dir code : Int} {A : Option Addr} {c : Nat} {l : List Int} {w0 : World} (hr : Kd.C (Kd.int .u8) w0 A l.length l) (hc : l.length ≤ c) (hs : l.length ≤ 1000000) (hb : isBytes l) (hcd : 0 ≤ code ∧ code < 256) :
    Calls Try.prog 13 #[.int .i64 dir, .int .u8 code, .slice A l.length c] w0 fun en w' => ∃ cx, en = .returned (.tuple #[.agg cx, .int .i64 (parse dir code l).2]) ∧ IsMsg w' cx (parse dir code l).1 ∧ Below w0.heap.size w0 w' := by
  by_cases h0 : dir = 0
  · subst h0
    by_cases k1 : code = 1
    · subst k1; exact parse_0_1 hr hc hs hb
    by_cases k2 : code = 2
    · subst k2; exact parse_0_2 hr hc hs hb
    by_cases k5 : code = 5
    · subst k5; exact parse_0_5 hr hc hs hb
    by_cases k15 : code = 15
    · subst k15; exact parse_0_15 hr hc hs hb
    have e : parse 0 code l = (zeroM, 4) := by unfold parse; rw [if_neg (by decide), if_pos (by omega)]
    rw [e]; exact parse_no0 hr hc hs hb hcd (by omega)
  by_cases h1 : dir = 1
  · subst h1
    by_cases k1 : code = 1
    · subst k1; exact parse_1_1 hr hc hs hb
    by_cases k2 : code = 2
    · subst k2; exact parse_1_2 hr hc hs hb
    by_cases k5 : code = 5
    · subst k5; exact parse_1_5 hr hc hs hb
    by_cases k15 : code = 15
    · subst k15; exact parse_1_15 hr hc hs hb
    have e : parse 1 code l = (zeroM, 4) := by unfold parse; rw [if_neg (by decide), if_pos (by omega)]
    rw [e]; exact parse_no1 hr hc hs hb hcd (by omega)
  have e : parse dir code l = (zeroM, 1) := by unfold parse; rw [if_pos ⟨h0, h1⟩]
  rw [e]; exact parse_dir hr hc hs hb h0 h1
end Go.Proofs.Ytggiobdjepgkfaa.Coil
end
section
namespace Go.Proofs.Ytggiobdjepgkfaa.QS
open Go.RowKit Go.Proofs.Ytggiobdjepgkfaa.P Go.Proofs.Ytggiobdjepgkfaa.E Go.Proofs.Ytggiobdjepgkfaa.Cur Go.Proofs.Ytggiobdjepgkfaa.RCur Go.Proofs.Ytggiobdjepgkfaa.Cu Go.Proofs.Ytggiobdjepgkfaa.Same Go.Proofs.YtggiobdjepgkfaaW.PrintWords Go.Proofs.YtggiobdjepgkfaaW.PrintLast Go.Proofs.YtggiobdjepgkfaaW.PrintMore
structure St (w0 : World) (gr g gm : Nat) (w : World) (c : Cu) (m : Msg) : Prop where
  b : Below w0.heap.size w0 w
  cur : QAt w0.heap.size w g c
  cx : ∃ cx, w.heap[gm]? = some (.cells cx 30 (0, 0)) ∧ ∀ W', Kept w W' (fun k => k = g ∨ k = gm ∨ k = gr) → IsMsg W' cx m
  res : w.heap[gr]? = some (.cells zeroC 30 (0, 0))
  h1 : w0.heap.size ≤ g ∧ w0.heap.size ≤ gm ∧ w0.heap.size ≤ gr
  h2 : gm ≠ g ∧ gr ≠ g ∧ gr ≠ gm
  nl : ∃ cx, w.heap[gm]? = some (.cells cx 30 (0, 0)) ∧ NilL cx
section
variable {w0 w w' : World} {gr g gm : Nat} {c c' : Cu} {m m' : Msg}
end
structure Nw (w0 : World) (gr g : Nat) (w : World) (c : Cu) : Prop where
  b : Below w0.heap.size w0 w
  cur : QAt w0.heap.size w g c
  res : w.heap[gr]? = some (.cells zeroC 30 (0, 0))
  h1 : w0.heap.size ≤ g ∧ w0.heap.size ≤ gr
  h2 : gr ≠ g
end Go.Proofs.Ytggiobdjepgkfaa.QS
end
section
namespace Go.Proofs.Ytggiobdjepgkfaa.CoilR
open Go.RowKit Go.Proofs.Ytggiobdjepgkfaa.P Go.Proofs.Ytggiobdjepgkfaa.E Go.Proofs.Ytggiobdjepgkfaa.Cur Go.Proofs.Ytggiobdjepgkfaa.Cu Go.Proofs.Ytggiobdjepgkfaa.Same Go.Proofs.Ytggiobdjepgkfaa.Bits Go.Proofs.Ytggiobdjepgkfaa.Coil Go.Proofs.YtggiobdjepgkfaaW.PrintWords Go.Proofs.YtggiobdjepgkfaaW.PrintLast Go.Proofs.YtggiobdjepgkfaaW.PrintMore
end Go.Proofs.Ytggiobdjepgkfaa.CoilR
end
section
namespace Go.Proofs.Ytggiobdjepgkfaa.Com
open Go.RowKit Go.Proofs.Ytggiobdjepgkfaa.P Go.Proofs.Ytggiobdjepgkfaa.E Go.Proofs.Ytggiobdjepgkfaa.Same Go.Proofs.YtggiobdjepgkfaaW.PrintWords Go.Proofs.YtggiobdjepgkfaaW.PrintLast Go.Proofs.YtggiobdjepgkfaaW.PrintMore
def ParseC (fn : Nat) (dir code : Int) (l : List Int) (P : Msg × Int) : Prop := ∀ (A : Option Addr) (c : Nat) (W : World), Kd.C (Kd.int .u8) W A l.length l → l.length ≤ c → Calls Try.prog fn #[.int .i64 dir, .int .u8 code, .slice A l.length c] W fun en w' => ∃ cx, en = .returned (.tuple #[.agg cx, .int .i64 P.2]) ∧ IsMsg w' cx P.1 ∧ Below W.heap.size W w'
def LayC (fn : Nat) (dir : Int) (m : Msg) (l : List Int) : Prop := ∀ (cx : Array Value) (W : World), IsMsg W cx m → Calls Try.prog fn #[.int .i64 dir, .agg cx] W fun en w' => ∃ A c, en = .returned (.slice A l.length c) ∧ l.length ≤ c ∧ Kd.C (Kd.int .u8) w' A l.length l ∧ Below W.heap.size W w'
def WriteC (fn : Nat) (dir : Int) (m : Msg) (R : List Int × Int) : Prop := ∀ (cx : Array Value) (W : World), IsMsg W cx m → Calls Try.prog fn #[.int .i64 dir, .agg cx] W fun en w' => ∃ A c, en = .returned (.tuple #[.slice A R.1.length c, .int .i64 R.2]) ∧ R.1.length ≤ c ∧ Kd.C (Kd.int .u8) w' A R.1.length R.1 ∧ Below W.heap.size W w'
theorem ParseC.c {fn : Nat} {dir code : Int} {l : List Int} {P : Msg × Int} (h : ParseC fn dir code l P) {A : Option Addr} {c : Nat} {W : World} (hr : Kd.C (Kd.int .u8) W A l.length l) (hc : l.length ≤ c) : Calls Try.prog fn #[.int .i64 dir, .int .u8 code, .slice A l.length c] W fun en w' => ∃ cx, en = .returned (.tuple #[.agg cx, .int .i64 P.2]) ∧ IsMsg w' cx P.1 ∧ Below W.heap.size W w' := h A c W hr hc
theorem LayC.c {fn : Nat} {dir : Int} {m : Msg} {l : List Int} (h : LayC fn dir m l) {cx : Array Value} {W : World} (hm : IsMsg W cx m) : Calls Try.prog fn #[.int .i64 dir, .agg cx] W fun en w' => ∃ A c, en = .returned (.slice A l.length c) ∧ l.length ≤ c ∧ Kd.C (Kd.int .u8) w' A l.length l ∧ Below W.heap.size W w' := h cx W hm
theorem WriteC.n {fn : Nat} {dir : Int} {m : Msg} {xs : List Int} {e : Int} (h : WriteC fn dir m (xs, e)) {n : Nat} (hn : xs.length = n) {cx : Array Value} {W : World} (hm : IsMsg W cx m) : Calls Try.prog fn #[.int .i64 dir, .agg cx] W fun en w' => ∃ A c, en = .returned (.tuple #[.slice A n c, .int .i64 e]) ∧ n ≤ c ∧ Kd.C (Kd.int .u8) w' A n xs ∧ Below W.heap.size W w' := by
  subst hn
  exact h cx W hm
theorem ParseC.ex {fn : Nat} {dir code : Int} {bs xs : List Int} {P : Msg × Int} (h : ParseC fn dir code xs P) (he : bs = xs) : ParseC fn dir code bs P := he ▸ h
def writeR (m : Msg) (l : List Int) (P : Msg × Int) : List Int × Int := if P.2 = 0 ∧ sameB P.1 m = true then (l, 0) else ([], 1)
theorem write_err {dir : Int} {m : Msg} {l : List Int} {P : Msg × Int} (hl : LayC 38 dir m l) (hp : ParseC 13 dir m.code l P) {cx : Array Value} {w : World} (hm : IsMsg w cx m) (he : P.2 ≠ 0) :
    Calls Try.prog 17 #[.int .i64 dir, .agg cx] w fun en w' => ∃ A c, en = .returned (.tuple #[.slice A (([] : List Int)).length c, .int .i64 1]) ∧ (([] : List Int)).length ≤ c ∧ Kd.C (Kd.int .u8) w' A (([] : List Int)).length (([] : List Int)) ∧ Below w.heap.size w w' := by
  have HL := Aside0.mk hl
  have HPC := Aside0.mk hp
  have H := Aside0.mk (Hd.start w)
  have hsz := hm.size
  have hix := msg_info hsz
  have n0_ := Aside0.mk ((((H.out.on (below_alloc (Below.refl _ _) (Obj.cells cx 30)))).add (sta_blk _ _) (blk_new _ _)).add (sta_msg _ _) (hm.on (below_alloc (Below.refl _ _) _)))
  clear H
  have H := n0_
  clear n0_
  have e0 : (P.2 == 0) = false := beq_eq_false_iff_ne.2 he
  have e1 : (P.2 != 0) = true := by rw [bne, e0]; rfl
  clear hl hp he hm
  go_enter Try.func17, Try.ntmps17
  go_upto_region 2 with (first | ((with_reducible refine gate_dst (N := 10) rfl ?_); (try (refine gate_guard (by rfl) ?_; dsimp only)); refine ev_get (x := .tmp 3) rfl rfl rfl H.out.f.1.2 H.out.f.2 ?_) | (go_at_call 38; (with_reducible refine (LayC.c HL.out H.out.f.2).mono ?_); rintro en wb ⟨Ab, cb, rfl, hz_, hr_, hb_⟩; have n0_ := Aside0.mk ((H.out.on hb_).add (sta_C _ _ _ _) (hr_)); clear H; have H := n0_; clear n0_; have Zb := Aside0.mk hz_; clear hb_ hr_ hz_))
  have kc := bx_code H.out.f.1.1.2 H.out.f.1.2
  go_upto_region 3 with (first | (go_at_call 13; (with_reducible refine (ParseC.c HPC.out H.out.f.2 Zb.out).mono ?_); rintro en wx ⟨cx2, rfl, hm_, hb_⟩; have n0_ := Aside0.mk ((H.out.on hb_).add (sta_msg _ _) (hm_)); clear H; have H := n0_; clear n0_; clear hb_ hm_) | ((with_reducible refine gate_dst (N := 7) rfl ?_); refine ev_var (y := .tmp 18) rfl rfl rfl rfl rfl H.out.f.2 rfl rfl ?_; intro gx wv hg_ h1_ hb_; have n0_ := Aside0.mk ((H.out.on hb_).add (sta_blk _ _) (h1_)); clear H; have H := n0_; clear n0_; clear h1_ hb_ hg_))
  clear kc
  go_wp2
  go_ret2
  exact ⟨none, 0, rfl, Nat.le_refl _, Kd.C_nil _ _, H.out.b⟩
theorem write_not {dir : Int} {m : Msg} {l : List Int} {P : Msg × Int} (hl : LayC 38 dir m l) (hp : ParseC 13 dir m.code l P) {cx : Array Value} {w : World} (hm : IsMsg w cx m) (he : P.2 = 0) (hs : sameB P.1 m = false) :
    Calls Try.prog 17 #[.int .i64 dir, .agg cx] w fun en w' => ∃ A c, en = .returned (.tuple #[.slice A (([] : List Int)).length c, .int .i64 1]) ∧ (([] : List Int)).length ≤ c ∧ Kd.C (Kd.int .u8) w' A (([] : List Int)).length (([] : List Int)) ∧ Below w.heap.size w w' := by
  have HL := Aside0.mk hl
  have HPC := Aside0.mk hp
  have H := Aside0.mk (Hd.start w)
  have hsz := hm.size
  have hix := msg_info hsz
  have n0_ := Aside0.mk ((((H.out.on (below_alloc (Below.refl _ _) (Obj.cells cx 30)))).add (sta_blk _ _) (blk_new _ _)).add (sta_msg _ _) (hm.on (below_alloc (Below.refl _ _) _)))
  clear H
  have H := n0_
  clear n0_
  have e0 : (P.2 == 0) = true := beq_iff_eq.2 he
  have e1 : (P.2 != 0) = false := by rw [bne, e0]; rfl
  clear hl hp he hm
  go_enter Try.func17, Try.ntmps17
  go_upto_region 2 with (first | ((with_reducible refine gate_dst (N := 10) rfl ?_); (try (refine gate_guard (by rfl) ?_; dsimp only)); refine ev_get (x := .tmp 3) rfl rfl rfl H.out.f.1.2 H.out.f.2 ?_) | (go_at_call 38; (with_reducible refine (LayC.c HL.out H.out.f.2).mono ?_); rintro en wb ⟨Ab, cb, rfl, hz_, hr_, hb_⟩; have n0_ := Aside0.mk ((H.out.on hb_).add (sta_C _ _ _ _) (hr_)); clear H; have H := n0_; clear n0_; have Zb := Aside0.mk hz_; clear hb_ hr_ hz_))
  have kc := bx_code H.out.f.1.1.2 H.out.f.1.2
  go_upto_region 3 with (first | (go_at_call 13; (with_reducible refine (ParseC.c HPC.out H.out.f.2 Zb.out).mono ?_); rintro en wx ⟨cx2, rfl, hm_, hb_⟩; have n0_ := Aside0.mk ((H.out.on hb_).add (sta_msg _ _) (hm_)); clear H; have H := n0_; clear n0_; clear hb_ hm_) | ((with_reducible refine gate_dst (N := 7) rfl ?_); refine ev_var (y := .tmp 18) rfl rfl rfl rfl rfl H.out.f.2 rfl rfl ?_; intro gx wv hg_ h1_ hb_; have n0_ := Aside0.mk ((H.out.on hb_).add (sta_blk _ _) (h1_)); clear H; have H := n0_; clear n0_; clear h1_ hb_ hg_))
  clear kc
  go_wp2_with (first | ((with_reducible refine gate_dst (N := 23) rfl ?_); (try (refine gate_guard (by rfl) ?_; dsimp only)); refine ev_get (x := .tmp 7) rfl rfl rfl H.out.f.2 H.out.f.1.2 ?_) | ((with_reducible refine gate_dst (N := 24) rfl ?_); (try (refine gate_guard (by rfl) ?_; dsimp only)); refine ev_get (x := .tmp 3) rfl rfl rfl H.out.f.1.1.1.1.2 H.out.f.1.1.1.2 ?_) | (go_at_call 39; (with_reducible refine (same_msg H.out.f.1.2 H.out.f.1.1.1.2).mono ?_); rintro en ws ⟨rfl, hb_⟩; have n0_ := Aside0.mk (H.out.on hb_); clear H; have H := n0_; clear n0_; clear hb_))
  go_ret2
  exact ⟨none, 0, rfl, Nat.le_refl _, Kd.C_nil _ _, H.out.b⟩
theorem write_yes {dir : Int} {m : Msg} {l : List Int} {P : Msg × Int} (hl : LayC 38 dir m l) (hp : ParseC 13 dir m.code l P) {cx : Array Value} {w : World} (hm : IsMsg w cx m) (he : P.2 = 0) (hs : sameB P.1 m = true) :
    Calls Try.prog 17 #[.int .i64 dir, .agg cx] w fun en w' => ∃ A c, en = .returned (.tuple #[.slice A (l).length c, .int .i64 0]) ∧ (l).length ≤ c ∧ Kd.C (Kd.int .u8) w' A (l).length (l) ∧ Below w.heap.size w w' := by
  have HL := Aside0.mk hl
  have HPC := Aside0.mk hp
  have H := Aside0.mk (Hd.start w)
  have hsz := hm.size
  have hix := msg_info hsz
  have n0_ := Aside0.mk ((((H.out.on (below_alloc (Below.refl _ _) (Obj.cells cx 30)))).add (sta_blk _ _) (blk_new _ _)).add (sta_msg _ _) (hm.on (below_alloc (Below.refl _ _) _)))
  clear H
  have H := n0_
  clear n0_
  have e0 : (P.2 == 0) = true := beq_iff_eq.2 he
  have e1 : (P.2 != 0) = false := by rw [bne, e0]; rfl
  clear hl hp he hm
  go_enter Try.func17, Try.ntmps17
  go_upto_region 2 with (first | ((with_reducible refine gate_dst (N := 10) rfl ?_); (try (refine gate_guard (by rfl) ?_; dsimp only)); refine ev_get (x := .tmp 3) rfl rfl rfl H.out.f.1.2 H.out.f.2 ?_) | (go_at_call 38; (with_reducible refine (LayC.c HL.out H.out.f.2).mono ?_); rintro en wb ⟨Ab, cb, rfl, hz_, hr_, hb_⟩; have n0_ := Aside0.mk ((H.out.on hb_).add (sta_C _ _ _ _) (hr_)); clear H; have H := n0_; clear n0_; have Zb := Aside0.mk hz_; clear hb_ hr_ hz_))
  have kc := bx_code H.out.f.1.1.2 H.out.f.1.2
  go_upto_region 3 with (first | (go_at_call 13; (with_reducible refine (ParseC.c HPC.out H.out.f.2 Zb.out).mono ?_); rintro en wx ⟨cx2, rfl, hm_, hb_⟩; have n0_ := Aside0.mk ((H.out.on hb_).add (sta_msg _ _) (hm_)); clear H; have H := n0_; clear n0_; clear hb_ hm_) | ((with_reducible refine gate_dst (N := 7) rfl ?_); refine ev_var (y := .tmp 18) rfl rfl rfl rfl rfl H.out.f.2 rfl rfl ?_; intro gx wv hg_ h1_ hb_; have n0_ := Aside0.mk ((H.out.on hb_).add (sta_blk _ _) (h1_)); clear H; have H := n0_; clear n0_; clear h1_ hb_ hg_))
  clear kc
  go_wp2_with (first | ((with_reducible refine gate_dst (N := 23) rfl ?_); (try (refine gate_guard (by rfl) ?_; dsimp only)); refine ev_get (x := .tmp 7) rfl rfl rfl H.out.f.2 H.out.f.1.2 ?_) | ((with_reducible refine gate_dst (N := 24) rfl ?_); (try (refine gate_guard (by rfl) ?_; dsimp only)); refine ev_get (x := .tmp 3) rfl rfl rfl H.out.f.1.1.1.1.2 H.out.f.1.1.1.2 ?_) | (go_at_call 39; (with_reducible refine (same_msg H.out.f.1.2 H.out.f.1.1.1.2).mono ?_); rintro en ws ⟨rfl, hb_⟩; have n0_ := Aside0.mk (H.out.on hb_); clear H; have H := n0_; clear n0_; clear hb_))
  go_ret2
  exact ⟨Ab, cb, rfl, Zb.out, H.out.f.1.1.2, H.out.b⟩
theorem write_of {dir : Int} {m : Msg} {l : List Int} {P : Msg × Int} (hl : LayC 38 dir m l) (hp : ParseC 13 dir m.code l P) : WriteC 17 dir m (writeR m l P) := by
  intro cx W hm
  unfold writeR
  by_cases he : P.2 = 0
  · cases hs : sameB P.1 m with
    | false => rw [if_neg (fun h => by cases h.2)]; exact write_not hl hp hm he hs
    | true => rw [if_pos ⟨he, rfl⟩]; exact write_yes hl hp hm he hs
  · rw [if_neg (fun h => he h.1)]; exact write_err hl hp hm he
end Go.Proofs.Ytggiobdjepgkfaa.Com
end
