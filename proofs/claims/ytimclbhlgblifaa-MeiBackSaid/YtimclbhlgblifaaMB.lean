/- What the laws of this chapter rest on, part 2: what the functions that they reach answer, each shown once. Conditions: what each theorem states. (Merged by a program of this session, wip/tools/merge.py, out of its own texts.) -/
import Derived.Deep.MidRow
import Derived.Test.YtimclbhlgblifaaProg
import Derived.Test.YtimclbhlgblifaaWKept
import Derived.Test.YtimclbhlgblifaaWMore
import Derived.Lib.SliceRun
import Derived.Test.YtimclbhlgblifaaWInvWords
import Derived.Test.YtimclbhlgblifaaWTab
import Derived.Maps.OwnOps
import Derived.Maps.Views
import Derived.Deep.CutRange
import Derived.Test.YtimclbhlgblifaaMA
set_option linter.unusedVariables false
set_option linter.unusedSimpArgs false
section
namespace Go.Proofs.Ytimclbhlgblifaa.Same
open Go.RowKit Go.Proofs.Ytimclbhlgblifaa.P Go.Proofs.Ytimclbhlgblifaa.E Go.Proofs.YtimclbhlgblifaaW.PrintWords Go.Proofs.YtimclbhlgblifaaW.PrintLast Go.Proofs.YtimclbhlgblifaaW.PrintMore
def bmr (n m : Nat) : Array Bool := ⟨(List.range n).map fun i => m.testBit i⟩
def refs.T21 : Bool × List (List Nat × List Nat) := (true, [([], []), ([0], [0]), ([], []), ([1, 2], [1, 2]), ([3], [3]), ([4], [4]), ([], []), ([6], [6]), ([], []), ([7, 8], [7, 8]), ([9], [9]), ([10], [10]), ([5, 11], [5, 11]), ([12, 12, 0, 1, 2, 3, 4, 5, 6, 7, 8, 9, 10, 11, 12], [12])])
def refs.B21 : List Nat := [0, 1, 0, 7, 15, 31, 0, 64, 0, 448, 960, 1984, 4095, 8191]
theorem refs.tab21 : rtab .any (opsOf Try.f14 21) = refs.T21 := by kernel_rfl
theorem refs.bits21 : waitsOk refs.T21.2 refs.B21 = true := by kernel_rfl
def refs.T22 : Bool × List (List Nat × List Nat) := (true, [([], []), ([0], [0]), ([1], [1]), ([2], [2]), ([3, 2], [2, 3]), ([2], [2]), ([4, 5, 2], [2, 4, 5]), ([6, 2], [2, 6]), ([7, 2], [2, 7]), ([2], [2]), ([9, 2], [2, 9]), ([2], [2]), ([10, 11, 2], [2, 10, 11]), ([12, 2], [2, 12]), ([13, 2], [2, 13]), ([8, 14, 2], [2, 8, 14]), ([2, 15], [2, 15])])
def refs.B22 : List Nat := [0, 1, 3, 7, 15, 7, 63, 127, 255, 7, 519, 7, 3591, 7687, 15879, 32767, 65535]
theorem refs.tab22 : rtab .any (opsOf Try.f14 22) = refs.T22 := by kernel_rfl
theorem refs.bits22 : waitsOk refs.T22.2 refs.B22 = true := by kernel_rfl
def restB (x y : Msg) : Bool := x.words == y.words && x.bits == y.bits && x.data == y.data && listB recB x.recs y.recs && listB objB x.objects y.objects
theorem rest_rec (x y : Msg) (h : x.recs.length ≠ y.recs.length) : restB x y = false := by
  have e : listB recB x.recs y.recs = false := by
    cases h2 : listB recB x.recs y.recs with
    | false => rfl
    | true => exact absurd (listB_len _ _ h2) h
  unfold restB
  rw [e, Bool.and_false, Bool.false_and]
theorem rest_obj (x y : Msg) (h : x.objects.length ≠ y.objects.length) : restB x y = false := by
  have e : listB objB x.objects y.objects = false := by
    cases h2 : listB objB x.objects y.objects with
    | false => rfl
    | true => exact absurd (listB_len _ _ h2) h
  unfold restB
  rw [e, Bool.and_false]
theorem rec_drop {x y : Msg} {k : Nat} (h : k < x.recs.length) (h2 : k < y.recs.length) : listB recB (x.recs.drop k) (y.recs.drop k) = (recB (rd_T64 x.recs (k : Int)) (rd_T64 y.recs (k : Int)) && listB recB (x.recs.drop (k + 1)) (y.recs.drop (k + 1))) := by
  rw [drop_cons h z64, drop_cons h2 z64]
  unfold rd_T64
  rw [Int.toNat_natCast]
  rfl
theorem obj_drop {x y : Msg} {k : Nat} (h : k < x.objects.length) (h2 : k < y.objects.length) : listB objB (x.objects.drop k) (y.objects.drop k) = (objB (rd_T43 x.objects (k : Int)) (rd_T43 y.objects (k : Int)) && listB objB (x.objects.drop (k + 1)) (y.objects.drop (k + 1))) := by
  rw [drop_cons h z43, drop_cons h2 z43]
  unfold rd_T43
  rw [Int.toNat_natCast]
  rfl
theorem obj_bytes {m : Msg} (g : goodM m) {k : Nat} (h : k < m.objects.length) : isBytes (rd_T43 m.objects (k : Int)).f1 := by
  refine (goodM_num g).2.2 _ ?_
  unfold rd_T43
  rw [Int.toNat_natCast, List.getD_eq_getElem?_getD, List.getElem?_eq_getElem h]
  exact List.getElem_mem h
theorem refsame_ne {cx cy : Array Value} {x y : Msg} {w : World} (hx : IsMsg w cx x) (hy : IsMsg w cy y) (hp : plainB x y = false) :
    Calls Try.prog 14 #[.agg cx, .agg cy] w fun e w' => e = .returned (.bool false) ∧ Below w.heap.size w w' := by
  obtain ⟨A12, c12, A13, c13, A14, c14, A15, c15, A21, c21, rfl, _⟩ := hx
  obtain ⟨B12, d12, B13, d13, B14, d14, B15, d15, B21, d21, rfl, _⟩ := hy
  exact ref_diff x y A12 c12 A13 c13 A14 c14 A15 c15 A21 c21 B12 d12 B13 d13 B14 d14 B15 d15 B21 d21 w hp
set_option maxHeartbeats 16000000 in
set_option maxRecDepth 100000 in
theorem refsame_go {cx cy : Array Value} {x y : Msg} {w : World} (hx : IsMsg w cx x) (hy : IsMsg w cy y) (hp : plainB x y = true) :
    Calls Try.prog 14 #[.agg cx, .agg cy] w fun e w' => e = .returned (.bool (restB x y)) ∧ Below w.heap.size w w' := by
  have hp_ := hp
  unfold plainB at hp_
  simp only [Bool.and_eq_true, beq_iff_eq] at hp_
  obtain ⟨⟨⟨⟨⟨⟨⟨⟨⟨⟨⟨⟨⟨⟨⟨⟨e0, e1⟩, e2⟩, e3⟩, e4⟩, e5⟩, e6⟩, e7⟩, e8⟩, e9⟩, e10⟩, e11⟩, e16⟩, e17⟩, e18⟩, e19⟩, e20⟩ := hp_
  have n0 : (x.code != y.code) = false := by rw [bne, e0, beq_self_eq_true]; rfl
  have n1 : (x.fail != y.fail) = false := by rw [bne, e1, beq_self_eq_true]; rfl
  have n2 : (x.addr != y.addr) = false := by rw [bne, e2, beq_self_eq_true]; rfl
  have n3 : (x.count != y.count) = false := by rw [bne, e3, beq_self_eq_true]; rfl
  have n4 : (x.value != y.value) = false := by rw [bne, e4, beq_self_eq_true]; rfl
  have n5 : (x.and_ != y.and_) = false := by rw [bne, e5, beq_self_eq_true]; rfl
  have n6 : (x.or_ != y.or_) = false := by rw [bne, e6, beq_self_eq_true]; rfl
  have n7 : (x.addr2 != y.addr2) = false := by rw [bne, e7, beq_self_eq_true]; rfl
  have n8 : (x.sub != y.sub) = false := by rw [bne, e8, beq_self_eq_true]; rfl
  have n9 : (x.status != y.status) = false := by rw [bne, e9, beq_self_eq_true]; rfl
  have n10 : (x.events != y.events) = false := by rw [bne, e10, beq_self_eq_true]; rfl
  have n11 : (x.messages != y.messages) = false := by rw [bne, e11, beq_self_eq_true]; rfl
  have n16 : (x.mei != y.mei) = false := by rw [bne, e16, beq_self_eq_true]; rfl
  have n17 : (x.kind != y.kind) = false := by rw [bne, e17, beq_self_eq_true]; rfl
  have n18 : (x.level != y.level) = false := by rw [bne, e18, beq_self_eq_true]; rfl
  have n19 : (x.more != y.more) = false := by rw [bne, e19, beq_self_eq_true]; rfl
  have n20 : (x.next != y.next) = false := by rw [bne, e20, beq_self_eq_true]; rfl
  clear e0 e1 e2 e3 e4 e5 e6 e7 e8 e9 e10 e11 e16 e17 e18 e19 e20
  have bx_ : ((w.alloc (Obj.cells cx 30)).alloc (Obj.cells cy 30)).heap[w.heap.size]? = some (.cells cx 30 (0, 0)) := blk_alloc (blk_new w _) _
  have by_ : ((w.alloc (Obj.cells cx 30)).alloc (Obj.cells cy 30)).heap[w.heap.size + 1]? = some (.cells cy 30 (0, 0)) := by have := blk_new (w.alloc (Obj.cells cx 30)) (Obj.cells cy 30); simpa using this
  have px0 := bx_code bx_ hx
  have px1 := bx_fail bx_ hx
  have px2 := bx_addr bx_ hx
  have px3 := bx_count bx_ hx
  have px4 := bx_value bx_ hx
  have px5 := bx_and bx_ hx
  have px6 := bx_or bx_ hx
  have px7 := bx_addr2 bx_ hx
  have px8 := bx_sub bx_ hx
  have px9 := bx_status bx_ hx
  have px10 := bx_events bx_ hx
  have px11 := bx_messages bx_ hx
  have px16 := bx_mei bx_ hx
  have px17 := bx_kind bx_ hx
  have px18 := bx_level bx_ hx
  have px19 := bx_more bx_ hx
  have px20 := bx_next bx_ hx
  have py0 := bx_code by_ hy
  have py1 := bx_fail by_ hy
  have py2 := bx_addr by_ hy
  have py3 := bx_count by_ hy
  have py4 := bx_value by_ hy
  have py5 := bx_and by_ hy
  have py6 := bx_or by_ hy
  have py7 := bx_addr2 by_ hy
  have py8 := bx_sub by_ hy
  have py9 := bx_status by_ hy
  have py10 := bx_events by_ hy
  have py11 := bx_messages by_ hy
  have py16 := bx_mei by_ hy
  have py17 := bx_kind by_ hy
  have py18 := bx_level by_ hy
  have py19 := bx_more by_ hy
  have py20 := bx_next by_ hy
  obtain ⟨Ax12, cx12, Ax13, cx13, Ax14, cx14, Ax15, cx15, Ax21, cx21, ⟨lx12, lx13, lx14, lx15, lx21⟩, r12, r13, r14, r15, r21⟩ := hx.lists
  have RX12 := Aside0.mk r12
  have RX13 := Aside0.mk r13
  have RX14 := Aside0.mk r14
  have RX15 := Aside0.mk r15
  have RX21 := Aside0.mk r21
  have px12 := (blk_cell bx_ 12).trans lx12
  have px13 := (blk_cell bx_ 13).trans lx13
  have px14 := (blk_cell bx_ 14).trans lx14
  have px15 := (blk_cell bx_ 15).trans lx15
  have px21 := (blk_cell bx_ 21).trans lx21
  have LX12 := Aside0.mk lx12
  have LX13 := Aside0.mk lx13
  have LX14 := Aside0.mk lx14
  have LX15 := Aside0.mk lx15
  have LX21 := Aside0.mk lx21
  clear r12 r13 r14 r15 r21 lx12 lx13 lx14 lx15 lx21
  obtain ⟨Ay12, cy12, Ay13, cy13, Ay14, cy14, Ay15, cy15, Ay21, cy21, ⟨ly12, ly13, ly14, ly15, ly21⟩, r12, r13, r14, r15, r21⟩ := hy.lists
  have RY12 := Aside0.mk r12
  have RY13 := Aside0.mk r13
  have RY14 := Aside0.mk r14
  have RY15 := Aside0.mk r15
  have RY21 := Aside0.mk r21
  have py12 := (blk_cell by_ 12).trans ly12
  have py13 := (blk_cell by_ 13).trans ly13
  have py14 := (blk_cell by_ 14).trans ly14
  have py15 := (blk_cell by_ 15).trans ly15
  have py21 := (blk_cell by_ 21).trans ly21
  have LY12 := Aside0.mk ly12
  have LY13 := Aside0.mk ly13
  have LY14 := Aside0.mk ly14
  have LY15 := Aside0.mk ly15
  have LY21 := Aside0.mk ly21
  clear r12 r13 r14 r15 r21 ly12 ly13 ly14 ly15 ly21
  have DX := Aside0.mk (goodM_num hx.good).2.1
  have DY := Aside0.mk (goodM_num hy.good).2.1
  have GX := Aside0.mk hx.good
  have GY := Aside0.mk hy.good
  have H0 := ((Hd.start w).al (Obj.cells cx 30)).al (Obj.cells cy 30)
  have H := Aside0.mk ((H0.add (sta_blk _ _) bx_).add (sta_blk _ _) by_)
  clear H0 bx_ by_ hx hy hp
  obtain ⟨R_, hR⟩ : ∃ z, z = restB x y := ⟨_, rfl⟩
  rw [← hR]
  have RR := Aside0.mk hR
  clear hR
  have hu1 := Try.underlying30
  have hu2 := Try.underlying64
  go_enter Try.func14, Try.ntmps14
  go_upto_region 5 with (fail)
  clear px0 py0 px1 py1 px2 py2 px3 py3 px4 py4 px5 py5 px6 py6 px7 py7 px8 py8 px9 py9 px10 py10 px11 py11 px16 py16 px17 py17 px18 py18 px19 py19 px20 py20 n0 n1 n2 n3 n4 n5 n6 n7 n8 n9 n10 n11 n16 n17 n18 n19 n20
  clear px13 py13 px14 py14 px15 py15 px21 py21
  go_upto_region 6 with (go_at_call 32; (with_reducible refine (R01.words_c (Kd.C_max RX12.out.1) (Kd.C_below RX12.out.1 H.out.b) RX12.out.2 (Kd.C_below RY12.out.1 H.out.b) RY12.out.2).mono ?_); rintro e w6 ⟨rfl, hb_⟩; have n0_ := Aside0.mk (H.out.on hb_); clear H hb_; have H := n0_; clear n0_)
  have px13 := (blk_cell H.out.f.1.2 13).trans LX13.out
  have py13 := (blk_cell H.out.f.2 13).trans LY13.out
  go_upto_region 7 with (go_at_call 33; (with_reducible refine (R01.bools_c (Kd.C_max RX13.out.1) (Kd.C_below RX13.out.1 H.out.b) RX13.out.2 (Kd.C_below RY13.out.1 H.out.b) RY13.out.2).mono ?_); rintro e w7 ⟨rfl, hb_⟩; have n0_ := Aside0.mk (H.out.on hb_); clear H hb_; have H := n0_; clear n0_)
  have px14 := (blk_cell H.out.f.1.2 14).trans LX14.out
  have py14 := (blk_cell H.out.f.2 14).trans LY14.out
  go_upto_region 8 with (go_at_call 18; (with_reducible refine (R01.same_c DX.out DY.out (Kd.C_below RX14.out.1 H.out.b) RX14.out.2 (Kd.C_below RY14.out.1 H.out.b) RY14.out.2).mono ?_); rintro e w8 ⟨rfl, hb_⟩; have n0_ := Aside0.mk (H.out.on hb_); clear H hb_; have H := n0_; clear n0_)
  have px15 := (blk_cell H.out.f.1.2 15).trans LX15.out
  have py15 := (blk_cell H.out.f.2 15).trans LY15.out
  have px21 := (blk_cell H.out.f.1.2 21).trans LX21.out
  have py21 := (blk_cell H.out.f.2 21).trans LY21.out
  have Ewords : ∀ b, (x.words == y.words) = b → b = false → R_ = false := fun b hq hb => by rw [RR.out]; rw [hb] at hq; rw [restB, hq, Bool.false_and, Bool.false_and, Bool.false_and, Bool.false_and]
  have EEwords := Aside0.mk Ewords
  clear Ewords
  have Ebits : ∀ b, (x.bits == y.bits) = b → b = false → R_ = false := fun b hq hb => by rw [RR.out]; rw [hb] at hq; rw [restB, hq, Bool.and_false, Bool.false_and, Bool.false_and, Bool.false_and]
  have EEbits := Aside0.mk Ebits
  clear Ebits
  have Edata : ∀ b, (x.data == y.data) = b → b = false → R_ = false := fun b hq hb => by rw [RR.out]; rw [hb] at hq; rw [restB, hq, Bool.and_false, Bool.false_and, Bool.false_and]
  have EEdata := Aside0.mk Edata
  clear Edata
  cases hwords : (x.words == y.words) with
  | false =>
    have er := Aside0.mk (EEwords.out _ hwords rfl)
    clear hwords
    go_wp2
    go_ret
    exact ⟨congrArg (fun b => Ending.returned (.bool b)) er.out.symm, H.out.b⟩
  | true =>
  have Iwords := Aside0.mk hwords
  clear hwords EEwords
  cases hbits : (x.bits == y.bits) with
  | false =>
    have er := Aside0.mk (EEbits.out _ hbits rfl)
    clear hbits
    go_wp2
    go_ret
    exact ⟨congrArg (fun b => Ending.returned (.bool b)) er.out.symm, H.out.b⟩
  | true =>
  have Ibits := Aside0.mk hbits
  clear hbits EEbits
  cases hdata : (x.data == y.data) with
  | false =>
    have er := Aside0.mk (EEdata.out _ hdata rfl)
    clear hdata
    go_wp2
    go_ret
    exact ⟨congrArg (fun b => Ending.returned (.bool b)) er.out.symm, H.out.b⟩
  | true =>
  have Idata := Aside0.mk hdata
  clear hdata EEdata
  by_cases lrecs : x.recs.length = y.recs.length
  rotate_left
  · have er := Aside0.mk (RR.out.trans (rest_rec x y lrecs))
    have n1 : ((x.recs.length : Int) != (y.recs.length : Int)) = true := bne_iff_ne.2 (by omega)
    have n2 : (x.recs.length != y.recs.length) = true := bne_iff_ne.2 lrecs
    clear lrecs
    go_wp2
    go_ret
    exact ⟨congrArg (fun b => Ending.returned (.bool b)) er.out.symm, H.out.b⟩
  have mrecs : ((x.recs.length : Int) != (y.recs.length : Int)) = false := by rw [bne_eq_false_iff_eq]; omega
  have qrecs : (x.recs.length != y.recs.length) = false := by rw [bne_eq_false_iff_eq]; exact lrecs
  have Lrecs := Aside0.mk lrecs
  clear lrecs
  by_cases lobjects : x.objects.length = y.objects.length
  rotate_left
  · have er := Aside0.mk (RR.out.trans (rest_obj x y lobjects))
    have n1 : ((x.objects.length : Int) != (y.objects.length : Int)) = true := bne_iff_ne.2 (by omega)
    have n2 : (x.objects.length != y.objects.length) = true := bne_iff_ne.2 lobjects
    clear lobjects
    go_wp2
    go_ret
    exact ⟨congrArg (fun b => Ending.returned (.bool b)) er.out.symm, H.out.b⟩
  have mobjects : ((x.objects.length : Int) != (y.objects.length : Int)) = false := by rw [bne_eq_false_iff_eq]; omega
  have qobjects : (x.objects.length != y.objects.length) = false := by rw [bne_eq_false_iff_eq]; exact lobjects
  have Lobjects := Aside0.mk lobjects
  clear lobjects
  have RQ := Aside0.mk (show R_ = (listB recB x.recs y.recs && listB objB x.objects y.objects) by rw [RR.out, restB, Iwords.out, Ibits.out, Idata.out]; rfl)
  clear RR Iwords Ibits Idata
  go_wp2
  clear mrecs qrecs mobjects qobjects px15 py15 px21 py21
  go_loopw [8] (fun i wr => ∃ k : Nat, k ≤ x.recs.length ∧ i = .int .i64 k ∧ Aside0 (R_ = (listB recB (x.recs.drop k) (y.recs.drop k) && listB objB x.objects y.objects)) ∧ Aside0 (Hd w (fun W => (True ∧ W.heap[w.heap.size]? = some (.cells cx 30 (0, 0))) ∧ W.heap[w.heap.size + 1]? = some (.cells cy 30 (0, 0))) wr)) (fun i _ => x.recs.length - (intOf i).toNat)
  case atStart => exact ⟨0, Nat.zero_le _, rfl, ⟨RQ.out⟩, ⟨H.out⟩⟩
  case round =>
    clear H
    obtain ⟨k, hk, rfl, HL, H⟩ := hrel
    have hll : x.recs.length ≤ 9223372036854775807 := RX15.out.1.2.1
    have px15 := (blk_cell H.out.f.1.2 15).trans LX15.out
    have py15 := (blk_cell H.out.f.2 15).trans LY15.out
    by_cases hlt : k < x.recs.length
    · have hlt2 : k < y.recs.length := by rw [← Lrecs.out]; exact hlt
      obtain ⟨adA, A3, cA3, rfl, x0, x1, x2, x3, gA, qA⟩ := at_T64 RX15.out.1 (k : Int) (by omega) (by omega)
      obtain ⟨adB, B3, cB3, rfl, y0, y1, y2, y3, gB, qB⟩ := at_T64 RY15.out.1 (k : Int) (by omega) (by omega)
      have hd := HL.out
      rw [rec_drop hlt hlt2] at hd
      have rx0 := (H.out.b.cell (World.block_lt_of_cell? w _ x0)).trans x0
      rw [Int.toNat_natCast] at rx0
      have ax0 := fun o : Obj => ((below_alloc (Below.refl _ wr) o).cell (World.block_lt_of_cell? wr _ rx0)).trans rx0
      have rx1 := (H.out.b.cell (World.block_lt_of_cell? w _ x1)).trans x1
      rw [Int.toNat_natCast] at rx1
      have ax1 := fun o : Obj => ((below_alloc (Below.refl _ wr) o).cell (World.block_lt_of_cell? wr _ rx1)).trans rx1
      have rx2 := (H.out.b.cell (World.block_lt_of_cell? w _ x2)).trans x2
      rw [Int.toNat_natCast] at rx2
      have ax2 := fun o : Obj => ((below_alloc (Below.refl _ wr) o).cell (World.block_lt_of_cell? wr _ rx2)).trans rx2
      have rx3 := (H.out.b.cell (World.block_lt_of_cell? w _ x3)).trans x3
      rw [Int.toNat_natCast] at rx3
      have ax3 := fun o : Obj => ((below_alloc (Below.refl _ wr) o).cell (World.block_lt_of_cell? wr _ rx3)).trans rx3
      have ry0 := (H.out.b.cell (World.block_lt_of_cell? w _ y0)).trans y0
      rw [Int.toNat_natCast] at ry0
      have ay0 := fun o : Obj => ((below_alloc (Below.refl _ wr) o).cell (World.block_lt_of_cell? wr _ ry0)).trans ry0
      have ry1 := (H.out.b.cell (World.block_lt_of_cell? w _ y1)).trans y1
      rw [Int.toNat_natCast] at ry1
      have ay1 := fun o : Obj => ((below_alloc (Below.refl _ wr) o).cell (World.block_lt_of_cell? wr _ ry1)).trans ry1
      have ry2 := (H.out.b.cell (World.block_lt_of_cell? w _ y2)).trans y2
      rw [Int.toNat_natCast] at ry2
      have ay2 := fun o : Obj => ((below_alloc (Below.refl _ wr) o).cell (World.block_lt_of_cell? wr _ ry2)).trans ry2
      have ry3 := (H.out.b.cell (World.block_lt_of_cell? w _ y3)).trans y3
      rw [Int.toNat_natCast] at ry3
      have ay3 := fun o : Obj => ((below_alloc (Below.refl _ wr) o).cell (World.block_lt_of_cell? wr _ ry3)).trans ry3
      clear x0 x1 x2 x3 y0 y1 y2 y3
      have sx15 := fun o : Obj => ((below_alloc (Below.refl _ wr) o).cell (World.block_lt_of_cell? wr _ px15)).trans px15
      have sy15 := fun o : Obj => ((below_alloc (Below.refl _ wr) o).cell (World.block_lt_of_cell? wr _ py15)).trans py15
      generalize rd_T64 x.recs (k : Int) = ex at *
      generalize rd_T64 y.recs (k : Int) = ey at *
      have HD := Aside0.mk hd
      have QA := Aside0.mk qA
      have QB := Aside0.mk qB
      have ZA := Aside0.mk gA
      have ZB := Aside0.mk gB
      clear hd qA qB gA gB
      have CW := Aside0.mk (fun (W : World) (hb : Below wr.heap.size wr W) => R01.words_c (l := ex.f3) (m := ey.f3) (Kd.C_max QA.out) (A := A3) (B := B3) (c := cA3) (d := cB3) (W := W) (Kd.C_below (Kd.C_below QA.out H.out.b) hb) ZA.out (Kd.C_below (Kd.C_below QB.out H.out.b) hb) ZB.out)
      cases hq : (ex.f3 == ey.f3) with
      | false =>
        have CW2 := CW.out
        rw [hq] at CW2
        have CW := Aside0.mk CW2
        clear CW2
        have er := Aside0.mk (show R_ = false by rw [HD.out, recB, hq]; simp)
        clear hq
        go_wp2_with (go_at_call 32; (with_reducible refine (CW.out _ (below_alloc (below_alloc (Below.refl wr.heap.size wr) _) _)).mono ?_); rintro e wn ⟨rfl, hb_⟩; have H2 := Aside0.mk (H.out.on ((below_alloc (below_alloc (Below.refl wr.heap.size wr) _) _).trans (hb_.mono (by simp; omega)))); have b9_ := blk_below (blk_alloc (blk_new wr (Obj.cells #[Value.int IntKind.u16 ex.f0, Value.int IntKind.u16 ex.f1, Value.int IntKind.u16 ex.f2, Value.slice A3 ex.f3.length cA3] 64)) (Obj.cells #[Value.int IntKind.u16 ey.f0, Value.int IntKind.u16 ey.f1, Value.int IntKind.u16 ey.f2, Value.slice B3 ey.f3.length cB3] 64)) hb_; have b10_ : wn.heap[wr.heap.size + 1]? = some (Obj.cells #[Value.int IntKind.u16 ey.f0, Value.int IntKind.u16 ey.f1, Value.int IntKind.u16 ey.f2, Value.slice B3 ey.f3.length cB3] 64) := blk_below (by have := blk_new (wr.alloc (Obj.cells #[Value.int IntKind.u16 ex.f0, Value.int IntKind.u16 ex.f1, Value.int IntKind.u16 ex.f2, Value.slice A3 ex.f3.length cA3] 64)) (Obj.cells #[Value.int IntKind.u16 ey.f0, Value.int IntKind.u16 ey.f1, Value.int IntKind.u16 ey.f2, Value.slice B3 ey.f3.length cB3] 64); simpa using this) hb_; have k9_0 := (blk_cell b9_ 0).trans rfl; have k9_1 := (blk_cell b9_ 1).trans rfl; have k9_2 := (blk_cell b9_ 2).trans rfl; have k10_0 := (blk_cell b10_ 0).trans rfl; have k10_1 := (blk_cell b10_ 1).trans rfl; have k10_2 := (blk_cell b10_ 2).trans rfl; clear hb_ b9_ b10_)
        go_ret
        exact ⟨congrArg (fun b => Ending.returned (.bool b)) er.out.symm, H2.out.b⟩
      | true =>
      have CW2 := CW.out
      rw [hq] at CW2
      clear CW
      have CW := Aside0.mk CW2
      have F3 := Aside0.mk hq
      clear CW2 hq
      cases hq : (ex.f0 == ey.f0) with
      | false =>
        have hn : (ex.f0 != ey.f0) = true := by rw [bne, hq]; rfl
        have er := Aside0.mk (show R_ = false by rw [HD.out, recB, hq]; simp)
        clear hq
        go_wp2_with (go_at_call 32; (with_reducible refine (CW.out _ (below_alloc (below_alloc (Below.refl wr.heap.size wr) _) _)).mono ?_); rintro e wn ⟨rfl, hb_⟩; have H2 := Aside0.mk (H.out.on ((below_alloc (below_alloc (Below.refl wr.heap.size wr) _) _).trans (hb_.mono (by simp; omega)))); have b9_ := blk_below (blk_alloc (blk_new wr (Obj.cells #[Value.int IntKind.u16 ex.f0, Value.int IntKind.u16 ex.f1, Value.int IntKind.u16 ex.f2, Value.slice A3 ex.f3.length cA3] 64)) (Obj.cells #[Value.int IntKind.u16 ey.f0, Value.int IntKind.u16 ey.f1, Value.int IntKind.u16 ey.f2, Value.slice B3 ey.f3.length cB3] 64)) hb_; have b10_ : wn.heap[wr.heap.size + 1]? = some (Obj.cells #[Value.int IntKind.u16 ey.f0, Value.int IntKind.u16 ey.f1, Value.int IntKind.u16 ey.f2, Value.slice B3 ey.f3.length cB3] 64) := blk_below (by have := blk_new (wr.alloc (Obj.cells #[Value.int IntKind.u16 ex.f0, Value.int IntKind.u16 ex.f1, Value.int IntKind.u16 ex.f2, Value.slice A3 ex.f3.length cA3] 64)) (Obj.cells #[Value.int IntKind.u16 ey.f0, Value.int IntKind.u16 ey.f1, Value.int IntKind.u16 ey.f2, Value.slice B3 ey.f3.length cB3] 64); simpa using this) hb_; have k9_0 := (blk_cell b9_ 0).trans rfl; have k9_1 := (blk_cell b9_ 1).trans rfl; have k9_2 := (blk_cell b9_ 2).trans rfl; have k10_0 := (blk_cell b10_ 0).trans rfl; have k10_1 := (blk_cell b10_ 1).trans rfl; have k10_2 := (blk_cell b10_ 2).trans rfl; clear hb_ b9_ b10_)
        go_ret
        exact ⟨congrArg (fun b => Ending.returned (.bool b)) er.out.symm, H2.out.b⟩
      | true =>
      have n0 : (ex.f0 != ey.f0) = false := by rw [bne, hq]; rfl
      have F0 := Aside0.mk hq
      clear hq
      cases hq : (ex.f1 == ey.f1) with
      | false =>
        have hn : (ex.f1 != ey.f1) = true := by rw [bne, hq]; rfl
        have er := Aside0.mk (show R_ = false by rw [HD.out, recB, hq]; simp)
        clear hq
        go_wp2_with (go_at_call 32; (with_reducible refine (CW.out _ (below_alloc (below_alloc (Below.refl wr.heap.size wr) _) _)).mono ?_); rintro e wn ⟨rfl, hb_⟩; have H2 := Aside0.mk (H.out.on ((below_alloc (below_alloc (Below.refl wr.heap.size wr) _) _).trans (hb_.mono (by simp; omega)))); have b9_ := blk_below (blk_alloc (blk_new wr (Obj.cells #[Value.int IntKind.u16 ex.f0, Value.int IntKind.u16 ex.f1, Value.int IntKind.u16 ex.f2, Value.slice A3 ex.f3.length cA3] 64)) (Obj.cells #[Value.int IntKind.u16 ey.f0, Value.int IntKind.u16 ey.f1, Value.int IntKind.u16 ey.f2, Value.slice B3 ey.f3.length cB3] 64)) hb_; have b10_ : wn.heap[wr.heap.size + 1]? = some (Obj.cells #[Value.int IntKind.u16 ey.f0, Value.int IntKind.u16 ey.f1, Value.int IntKind.u16 ey.f2, Value.slice B3 ey.f3.length cB3] 64) := blk_below (by have := blk_new (wr.alloc (Obj.cells #[Value.int IntKind.u16 ex.f0, Value.int IntKind.u16 ex.f1, Value.int IntKind.u16 ex.f2, Value.slice A3 ex.f3.length cA3] 64)) (Obj.cells #[Value.int IntKind.u16 ey.f0, Value.int IntKind.u16 ey.f1, Value.int IntKind.u16 ey.f2, Value.slice B3 ey.f3.length cB3] 64); simpa using this) hb_; have k9_0 := (blk_cell b9_ 0).trans rfl; have k9_1 := (blk_cell b9_ 1).trans rfl; have k9_2 := (blk_cell b9_ 2).trans rfl; have k10_0 := (blk_cell b10_ 0).trans rfl; have k10_1 := (blk_cell b10_ 1).trans rfl; have k10_2 := (blk_cell b10_ 2).trans rfl; clear hb_ b9_ b10_)
        go_ret
        exact ⟨congrArg (fun b => Ending.returned (.bool b)) er.out.symm, H2.out.b⟩
      | true =>
      have n1 : (ex.f1 != ey.f1) = false := by rw [bne, hq]; rfl
      have F1 := Aside0.mk hq
      clear hq
      cases hq : (ex.f2 == ey.f2) with
      | false =>
        have hn : (ex.f2 != ey.f2) = true := by rw [bne, hq]; rfl
        have er := Aside0.mk (show R_ = false by rw [HD.out, recB, hq]; simp)
        clear hq
        go_wp2_with (go_at_call 32; (with_reducible refine (CW.out _ (below_alloc (below_alloc (Below.refl wr.heap.size wr) _) _)).mono ?_); rintro e wn ⟨rfl, hb_⟩; have H2 := Aside0.mk (H.out.on ((below_alloc (below_alloc (Below.refl wr.heap.size wr) _) _).trans (hb_.mono (by simp; omega)))); have b9_ := blk_below (blk_alloc (blk_new wr (Obj.cells #[Value.int IntKind.u16 ex.f0, Value.int IntKind.u16 ex.f1, Value.int IntKind.u16 ex.f2, Value.slice A3 ex.f3.length cA3] 64)) (Obj.cells #[Value.int IntKind.u16 ey.f0, Value.int IntKind.u16 ey.f1, Value.int IntKind.u16 ey.f2, Value.slice B3 ey.f3.length cB3] 64)) hb_; have b10_ : wn.heap[wr.heap.size + 1]? = some (Obj.cells #[Value.int IntKind.u16 ey.f0, Value.int IntKind.u16 ey.f1, Value.int IntKind.u16 ey.f2, Value.slice B3 ey.f3.length cB3] 64) := blk_below (by have := blk_new (wr.alloc (Obj.cells #[Value.int IntKind.u16 ex.f0, Value.int IntKind.u16 ex.f1, Value.int IntKind.u16 ex.f2, Value.slice A3 ex.f3.length cA3] 64)) (Obj.cells #[Value.int IntKind.u16 ey.f0, Value.int IntKind.u16 ey.f1, Value.int IntKind.u16 ey.f2, Value.slice B3 ey.f3.length cB3] 64); simpa using this) hb_; have k9_0 := (blk_cell b9_ 0).trans rfl; have k9_1 := (blk_cell b9_ 1).trans rfl; have k9_2 := (blk_cell b9_ 2).trans rfl; have k10_0 := (blk_cell b10_ 0).trans rfl; have k10_1 := (blk_cell b10_ 1).trans rfl; have k10_2 := (blk_cell b10_ 2).trans rfl; clear hb_ b9_ b10_)
        go_ret
        exact ⟨congrArg (fun b => Ending.returned (.bool b)) er.out.symm, H2.out.b⟩
      | true =>
      have n2 : (ex.f2 != ey.f2) = false := by rw [bne, hq]; rfl
      have F2 := Aside0.mk hq
      clear hq
      have er := Aside0.mk (show R_ = (listB recB (x.recs.drop (k + 1)) (y.recs.drop (k + 1)) && listB objB x.objects y.objects) by rw [HD.out, recB, F0.out, F1.out, F2.out, F3.out]; rfl)
      go_wp2_with (go_at_call 32; (with_reducible refine (CW.out _ (below_alloc (below_alloc (Below.refl wr.heap.size wr) _) _)).mono ?_); rintro e wn ⟨rfl, hb_⟩; have H2 := Aside0.mk (H.out.on ((below_alloc (below_alloc (Below.refl wr.heap.size wr) _) _).trans (hb_.mono (by simp; omega)))); have b9_ := blk_below (blk_alloc (blk_new wr (Obj.cells #[Value.int IntKind.u16 ex.f0, Value.int IntKind.u16 ex.f1, Value.int IntKind.u16 ex.f2, Value.slice A3 ex.f3.length cA3] 64)) (Obj.cells #[Value.int IntKind.u16 ey.f0, Value.int IntKind.u16 ey.f1, Value.int IntKind.u16 ey.f2, Value.slice B3 ey.f3.length cB3] 64)) hb_; have b10_ : wn.heap[wr.heap.size + 1]? = some (Obj.cells #[Value.int IntKind.u16 ey.f0, Value.int IntKind.u16 ey.f1, Value.int IntKind.u16 ey.f2, Value.slice B3 ey.f3.length cB3] 64) := blk_below (by have := blk_new (wr.alloc (Obj.cells #[Value.int IntKind.u16 ex.f0, Value.int IntKind.u16 ex.f1, Value.int IntKind.u16 ex.f2, Value.slice A3 ex.f3.length cA3] 64)) (Obj.cells #[Value.int IntKind.u16 ey.f0, Value.int IntKind.u16 ey.f1, Value.int IntKind.u16 ey.f2, Value.slice B3 ey.f3.length cB3] 64); simpa using this) hb_; have k9_0 := (blk_cell b9_ 0).trans rfl; have k9_1 := (blk_cell b9_ 1).trans rfl; have k9_2 := (blk_cell b9_ 2).trans rfl; have k10_0 := (blk_cell b10_ 0).trans rfl; have k10_1 := (blk_cell b10_ 1).trans rfl; have k10_2 := (blk_cell b10_ 2).trans rfl; clear hb_ b9_ b10_)
      go_roundw
      case rel => exact ⟨k + 1, by omega, by go_num, er, H2⟩
      case measure => simp [intOf]; omega
    · have RQ2 := Aside0.mk (show R_ = listB objB x.objects y.objects by rw [HL.out, List.drop_eq_nil_of_le (by omega), List.drop_eq_nil_of_le (by rw [← Lrecs.out]; omega)]; rfl)
      clear HL
      go_wp2
      clear px15 py15
      go_loopw [12] (fun i wr2 => ∃ k : Nat, k ≤ x.objects.length ∧ i = .int .i64 k ∧ Aside0 (R_ = listB objB (x.objects.drop k) (y.objects.drop k)) ∧ Aside0 (Hd w (fun W => (True ∧ W.heap[w.heap.size]? = some (.cells cx 30 (0, 0))) ∧ W.heap[w.heap.size + 1]? = some (.cells cy 30 (0, 0))) wr2)) (fun i _ => x.objects.length - (intOf i).toNat)
      case atStart => exact ⟨0, Nat.zero_le _, rfl, ⟨RQ2.out⟩, ⟨H.out⟩⟩
      case round =>
        clear H RQ2
        obtain ⟨k2, hk2, rfl, HL, H⟩ := hrel
        have hll2 : x.objects.length ≤ 9223372036854775807 := RX21.out.1.2.1
        have px21 := (blk_cell H.out.f.1.2 21).trans LX21.out
        have py21 := (blk_cell H.out.f.2 21).trans LY21.out
        by_cases hlt2 : k2 < x.objects.length
        · have hlt3 : k2 < y.objects.length := by rw [← Lobjects.out]; exact hlt2
          have hi1 : (k2 : Int) < (x.objects.length : Int) := by omega
          have hi2 : (k2 : Int) < (y.objects.length : Int) := by omega
          have hi0 : (0 : Int) ≤ (k2 : Int) := by omega
          obtain ⟨adA, A1, cA1, rfl, x0, x1, gA, qA⟩ := at_T43 RX21.out.1 (k2 : Int) (by omega) (by omega)
          obtain ⟨adB, B1, cB1, rfl, y0, y1, gB, qB⟩ := at_T43 RY21.out.1 (k2 : Int) (by omega) (by omega)
          have hd := HL.out
          rw [obj_drop hlt2 hlt3] at hd
          have bA := obj_bytes GX.out hlt2
          have bB := obj_bytes GY.out hlt3
          rw [Int.toNat_natCast] at x0 x1 y0 y1
          generalize rd_T43 x.objects (k2 : Int) = ex at *
          generalize rd_T43 y.objects (k2 : Int) = ey at *
          have X0_ := Aside0.mk x0
          have X1_ := Aside0.mk x1
          have Y0_ := Aside0.mk y0
          have Y1_ := Aside0.mk y1
          have HD := Aside0.mk hd
          have CS := Aside0.mk (fun (W : World) (hb : Below w.heap.size w W) => R01.same_c (l := ex.f1) (m := ey.f1) bA bB (A := A1) (B := B1) (c := cA1) (d := cB1) (W := W) (Kd.C_below qA hb) gA (Kd.C_below qB hb) gB)
          clear x0 x1 y0 y1 hd bA bB qA qB gA gB
          generalize hq : (ex.f1 == ey.f1) = c1 at CS
          have HQ := Aside0.mk hq
          clear hq
          go_upto_region 21 with (fail)
          have Hd0 := Aside0.mk H.out.dr
          refine start_ (n := 14) (S := fun w' => w'.cell? ⟨w.heap.size, 21, none⟩ = some (.slice (some adA) x.objects.length cx21) ∧ w'.cell? ⟨w.heap.size + 1, 21, none⟩ = some (.slice (some adB) y.objects.length cy21) ∧ w'.cell? ⟨(adA.add (k2 * 2)).block, (adA.add (k2 * 2)).off + 1, none⟩ = some (.slice A1 ex.f1.length cA1) ∧ w'.cell? ⟨(adB.add (k2 * 2)).block, (adB.add (k2 * 2)).off + 1, none⟩ = some (.slice B1 ey.f1.length cB1) ∧ Aside0 (Hd w (fun W => (True ∧ W.heap[w.heap.size]? = some (.cells cx 30 (0, 0))) ∧ W.heap[w.heap.size + 1]? = some (.cells cy 30 (0, 0))) w')) (ds := []) (bmr 14 0) (by as_aux_lemma => kernel_rfl) rfl (by as_aux_lemma => kernel_rfl) ⟨((blk_cell Hd0.out.f.1.2 21).trans LX21.out), ((blk_cell Hd0.out.f.2 21).trans LY21.out), ((Hd0.out.b.cell (World.block_lt_of_cell? w _ X1_.out)).trans X1_.out), ((Hd0.out.b.cell (World.block_lt_of_cell? w _ Y1_.out)).trans Y1_.out), Hd0⟩ (fun hHeld => ?_)
          refine with_tabW refs.tab21 refs.bits21 (fun HT_ HW_ => ?_)
          refine pure_ (i := 0) (N := some 224) (v := ?_) (a' := ?_) (bmr 14 1) rfl rfl (any_of HT_.out (by as_aux_lemma => kernel_rfl)) (fun _ _ _ h => h) (Or.inl ⟨by rfl, ?_⟩) ?_ ?_
          rotate_left
          · intro w'
            go_simp
            with_reducible rfl
          rotate_left
          · simp only [Act.put, List.setIfInBounds_toArray, List.set_cons_zero, List.set_cons_succ, i64_w, i32_w]
            rfl
          refine pure_ (i := 2) (N := some 226) (v := ?_) (a' := ?_) (bmr 14 5) rfl rfl (any_of HT_.out (by as_aux_lemma => kernel_rfl)) (fun _ _ _ h => h) (Or.inl ⟨by rfl, ?_⟩) ?_ ?_
          rotate_left
          · intro w'
            go_simp
            with_reducible rfl
          rotate_left
          · simp only [Act.put, List.setIfInBounds_toArray, List.set_cons_zero, List.set_cons_succ, i64_w, i32_w]
            rfl
          refine pure_ (i := 6) (N := some 230) (v := ?_) (a' := ?_) (bmr 14 69) rfl rfl (any_of HT_.out (by as_aux_lemma => kernel_rfl)) (fun _ _ _ h => h) (Or.inl ⟨by rfl, ?_⟩) ?_ ?_
          rotate_left
          · intro w'
            go_simp
            with_reducible rfl
          rotate_left
          · simp only [Act.put, List.setIfInBounds_toArray, List.set_cons_zero, List.set_cons_succ, i64_w, i32_w]
            rfl
          refine pure_ (i := 8) (N := some 232) (v := ?_) (a' := ?_) (bmr 14 325) rfl rfl (any_of HT_.out (by as_aux_lemma => kernel_rfl)) (fun _ _ _ h => h) (Or.inl ⟨by rfl, ?_⟩) ?_ ?_
          rotate_left
          · intro w'
            go_simp
            with_reducible rfl
          rotate_left
          · simp only [Act.put, List.setIfInBounds_toArray, List.set_cons_zero, List.set_cons_succ, i64_w, i32_w]
            rfl
          refine take_ (i := 1) (N := some 225) (v := ?_) (a' := ?_) (bmr 14 327) rfl rfl (take_ofW HT_.out HW_.out (by as_aux_lemma => kernel_rfl)) (fun _ _ _ h => h) (Or.inl ⟨by rfl, ?_⟩) hHeld ?_ ?_
          rotate_left
          · rintro w' ⟨s0, s1, s2, s3, s4⟩
            go_simp
            with_reducible rfl
          rotate_left
          · simp only [Act.put, List.setIfInBounds_toArray, List.set_cons_zero, List.set_cons_succ, i64_w, i32_w]
            rfl
          refine pure_ (i := 3) (N := some 227) (v := ?_) (a' := ?_) (bmr 14 335) rfl rfl (any_of HT_.out (by as_aux_lemma => kernel_rfl)) (fun _ _ _ h => h) (Or.inl ⟨by rfl, ?_⟩) ?_ ?_
          rotate_left
          · intro w'
            go_simp
            with_reducible rfl
          rotate_left
          · simp only [Act.put, List.setIfInBounds_toArray, List.set_cons_zero, List.set_cons_succ, i64_w, i32_w]
            rfl
          refine pure_ (i := 4) (N := some 228) (v := ?_) (a' := ?_) (bmr 14 351) rfl rfl (any_of HT_.out (by as_aux_lemma => kernel_rfl)) (fun _ _ _ h => h) (Or.inl ⟨by rfl, ?_⟩) ?_ ?_
          rotate_left
          · intro w'
            go_simp
            with_reducible rfl
          rotate_left
          · simp only [Act.put, List.setIfInBounds_toArray, List.set_cons_zero, List.set_cons_succ, i64_w, i32_w]
            rfl
          refine take_ (i := 5) (N := some 229) (v := ?_) (a' := ?_) (bmr 14 383) rfl rfl (take_ofW HT_.out HW_.out (by as_aux_lemma => kernel_rfl)) (fun _ _ _ h => h) (Or.inl ⟨by rfl, ?_⟩) hHeld ?_ ?_
          rotate_left
          · rintro w' ⟨s0, s1, s2, s3, s4⟩
            go_simp
            with_reducible rfl
          rotate_left
          · simp only [Act.put, List.setIfInBounds_toArray, List.set_cons_zero, List.set_cons_succ, i64_w, i32_w]
            rfl
          refine take_ (i := 7) (N := some 231) (v := ?_) (a' := ?_) (bmr 14 511) rfl rfl (take_ofW HT_.out HW_.out (by as_aux_lemma => kernel_rfl)) (fun _ _ _ h => h) (Or.inl ⟨by rfl, ?_⟩) hHeld ?_ ?_
          rotate_left
          · rintro w' ⟨s0, s1, s2, s3, s4⟩
            go_simp
            with_reducible rfl
          rotate_left
          · simp only [Act.put, List.setIfInBounds_toArray, List.set_cons_zero, List.set_cons_succ, i64_w, i32_w]
            rfl
          refine pure_ (i := 9) (N := some 233) (v := ?_) (a' := ?_) (bmr 14 1023) rfl rfl (any_of HT_.out (by as_aux_lemma => kernel_rfl)) (fun _ _ _ h => h) (Or.inl ⟨by rfl, ?_⟩) ?_ ?_
          rotate_left
          · intro w'
            go_simp
            with_reducible rfl
          rotate_left
          · simp only [Act.put, List.setIfInBounds_toArray, List.set_cons_zero, List.set_cons_succ, i64_w, i32_w]
            rfl
          refine pure_ (i := 10) (N := some 234) (v := ?_) (a' := ?_) (bmr 14 2047) rfl rfl (any_of HT_.out (by as_aux_lemma => kernel_rfl)) (fun _ _ _ h => h) (Or.inl ⟨by rfl, ?_⟩) ?_ ?_
          rotate_left
          · intro w'
            go_simp
            with_reducible rfl
          rotate_left
          · simp only [Act.put, List.setIfInBounds_toArray, List.set_cons_zero, List.set_cons_succ, i64_w, i32_w]
            rfl
          refine take_ (i := 11) (N := some 235) (v := ?_) (a' := ?_) (bmr 14 4095) rfl rfl (take_ofW HT_.out HW_.out (by as_aux_lemma => kernel_rfl)) (fun _ _ _ h => h) (Or.inl ⟨by rfl, ?_⟩) hHeld ?_ ?_
          rotate_left
          · rintro w' ⟨s0, s1, s2, s3, s4⟩
            go_simp
            with_reducible rfl
          rotate_left
          · simp only [Act.put, List.setIfInBounds_toArray, List.set_cons_zero, List.set_cons_succ, i64_w, i32_w]
            rfl
          refine one_ (i := 12) (N := some 236) (bmr 14 8191) rfl rfl (one_of HT_.out (by as_aux_lemma => kernel_rfl)) (by as_aux_lemma => decide) (fun K hK => ?_)
          refine goes_ Try.func18 (by as_aux_lemma => kernel_rfl) rfl #[.slice A1 ex.f1.length cA1, .slice B1 ey.f1.length cB1] (by rfl) rfl rfl (by simp only [List.map_toArray, List.map_cons, List.map_nil]; rfl) ?_
          with_reducible refine (CS.out _ hHeld.2.2.2.2.out.b).mono ?_
          rintro en w5 ⟨rfl, hb_⟩
          have H5 := Aside0.mk (hHeld.2.2.2.2.out.on hb_)
          clear hb_
          refine ⟨_, rfl, ?_⟩
          refine hK.out _ _ ⟨((blk_cell H5.out.f.1.2 21).trans LX21.out), ((blk_cell H5.out.f.2 21).trans LY21.out), ((H5.out.b.cell (World.block_lt_of_cell? w _ X1_.out)).trans X1_.out), ((H5.out.b.cell (World.block_lt_of_cell? w _ Y1_.out)).trans Y1_.out), H5⟩ (fun hHeld => ?_)
          clear hK K
          refine norm_ (a' := ?_) ?_ ?_
          rotate_left
          · show Act.put _ (some 236) _ = _
            simp only [Act.put, List.setIfInBounds_toArray, List.set_cons_zero, List.set_cons_succ, i64_w, i32_w]
            rfl
          refine pure_ (i := 13) (N := some 13) (v := ?_) (a' := ?_) (bmr 14 16383) rfl rfl (any_of HT_.out (by as_aux_lemma => kernel_rfl)) (fun _ _ _ h => h) (Or.inl ⟨by rfl, ?_⟩) ?_ ?_
          rotate_left
          · intro w'
            go_simp
            with_reducible rfl
          rotate_left
          · simp only [Act.put, List.setIfInBounds_toArray, List.set_cons_zero, List.set_cons_succ, i64_w, i32_w]
            rfl
          refine done_ (done_of HT_.out (by as_aux_lemma => kernel_rfl)) ?_
          
          clear Hd0 H
          have H := hHeld.2.2.2.2
          clear hHeld
          go_upto_region 22 with (fail)
          have Hd0 := Aside0.mk H.out.dr
          cases c1 with
          | false =>
            have er := Aside0.mk (show R_ = false by rw [HD.out, objB, HQ.out, Bool.and_false, Bool.false_and])
            refine start_ (n := 17) (S := fun w' => w'.cell? ⟨w.heap.size, 21, none⟩ = some (.slice (some adA) x.objects.length cx21) ∧ w'.cell? ⟨w.heap.size + 1, 21, none⟩ = some (.slice (some adB) y.objects.length cy21) ∧ w'.cell? (adA.add (k2 * 2)) = some (.int .u8 ex.f0) ∧ w'.cell? (adB.add (k2 * 2)) = some (.int .u8 ey.f0) ∧ Aside0 (Hd w (fun W => (True ∧ W.heap[w.heap.size]? = some (.cells cx 30 (0, 0))) ∧ W.heap[w.heap.size + 1]? = some (.cells cy 30 (0, 0))) w')) (ds := []) (bmr 17 0) (by as_aux_lemma => kernel_rfl) rfl (by as_aux_lemma => kernel_rfl) ⟨((blk_cell Hd0.out.f.1.2 21).trans LX21.out), ((blk_cell Hd0.out.f.2 21).trans LY21.out), ((Hd0.out.b.cell (World.block_lt_of_cell? w _ X0_.out)).trans X0_.out), ((Hd0.out.b.cell (World.block_lt_of_cell? w _ Y0_.out)).trans Y0_.out), Hd0⟩ (fun hHeld => ?_)
            refine with_tabW refs.tab22 refs.bits22 (fun HT_ HW_ => ?_)
            refine pure_ (i := 0) (N := some 237) (v := ?_) (a' := ?_) (bmr 17 1) rfl rfl (any_of HT_.out (by as_aux_lemma => kernel_rfl)) (fun _ _ _ h => h) (Or.inl ⟨by rfl, ?_⟩) ?_ ?_
            rotate_left
            · intro w'
              go_simp
              with_reducible rfl
            rotate_left
            · simp only [Act.put, List.setIfInBounds_toArray, List.set_cons_zero, List.set_cons_succ, i64_w, i32_w]
              rfl
            refine pure_ (i := 1) (N := some 238) (v := ?_) (a' := ?_) (bmr 17 3) rfl rfl (any_of HT_.out (by as_aux_lemma => kernel_rfl)) (fun _ _ _ h => h) (Or.inl ⟨by rfl, ?_⟩) ?_ ?_
            rotate_left
            · intro w'
              go_simp
              with_reducible rfl
            rotate_left
            · simp only [Act.put, List.setIfInBounds_toArray, List.set_cons_zero, List.set_cons_succ, i64_w, i32_w]
              rfl
            refine pure_ (i := 2) (N := some 239) (v := ?_) (a' := ?_) (bmr 17 7) rfl rfl (any_of HT_.out (by as_aux_lemma => kernel_rfl)) (fun _ _ _ h => h) (Or.inl ⟨by rfl, ?_⟩) ?_ ?_
            rotate_left
            · intro w'
              go_simp
              with_reducible rfl
            rotate_left
            · simp only [Act.put, List.setIfInBounds_toArray, List.set_cons_zero, List.set_cons_succ, i64_w, i32_w]
              rfl
            refine pure_ (i := 3) (N := some 240) (v := undef) (a' := ?_) (bmr 17 15) rfl rfl (any_of HT_.out (by as_aux_lemma => kernel_rfl)) (fun _ _ _ h => h) (Or.inr ⟨by rfl, rfl⟩) ?_ ?_
            rotate_left
            · simp only [Act.put, List.setIfInBounds_toArray, List.set_cons_zero, List.set_cons_succ, i64_w, i32_w]
              rfl
            refine pure_ (i := 4) (N := some 241) (v := undef) (a' := ?_) (bmr 17 31) rfl rfl (any_of HT_.out (by as_aux_lemma => kernel_rfl)) (fun _ _ _ h => h) (Or.inr ⟨by rfl, rfl⟩) ?_ ?_
            rotate_left
            · simp only [Act.put, List.setIfInBounds_toArray, List.set_cons_zero, List.set_cons_succ, i64_w, i32_w]
              rfl
            refine pure_ (i := 5) (N := some 242) (v := undef) (a' := ?_) (bmr 17 63) rfl rfl (any_of HT_.out (by as_aux_lemma => kernel_rfl)) (fun _ _ _ h => h) (Or.inr ⟨by rfl, rfl⟩) ?_ ?_
            rotate_left
            · simp only [Act.put, List.setIfInBounds_toArray, List.set_cons_zero, List.set_cons_succ, i64_w, i32_w]
              rfl
            refine pure_ (i := 6) (N := some 243) (v := undef) (a' := ?_) (bmr 17 127) rfl rfl (any_of HT_.out (by as_aux_lemma => kernel_rfl)) (fun _ _ _ h => h) (Or.inr ⟨by rfl, rfl⟩) ?_ ?_
            rotate_left
            · simp only [Act.put, List.setIfInBounds_toArray, List.set_cons_zero, List.set_cons_succ, i64_w, i32_w]
              rfl
            refine pure_ (i := 7) (N := some 244) (v := undef) (a' := ?_) (bmr 17 255) rfl rfl (any_of HT_.out (by as_aux_lemma => kernel_rfl)) (fun _ _ _ h => h) (Or.inr ⟨by rfl, rfl⟩) ?_ ?_
            rotate_left
            · simp only [Act.put, List.setIfInBounds_toArray, List.set_cons_zero, List.set_cons_succ, i64_w, i32_w]
              rfl
            refine pure_ (i := 8) (N := some 245) (v := undef) (a' := ?_) (bmr 17 511) rfl rfl (any_of HT_.out (by as_aux_lemma => kernel_rfl)) (fun _ _ _ h => h) (Or.inr ⟨by rfl, rfl⟩) ?_ ?_
            rotate_left
            · simp only [Act.put, List.setIfInBounds_toArray, List.set_cons_zero, List.set_cons_succ, i64_w, i32_w]
              rfl
            refine pure_ (i := 9) (N := some 246) (v := undef) (a' := ?_) (bmr 17 1023) rfl rfl (any_of HT_.out (by as_aux_lemma => kernel_rfl)) (fun _ _ _ h => h) (Or.inr ⟨by rfl, rfl⟩) ?_ ?_
            rotate_left
            · simp only [Act.put, List.setIfInBounds_toArray, List.set_cons_zero, List.set_cons_succ, i64_w, i32_w]
              rfl
            refine pure_ (i := 10) (N := some 247) (v := undef) (a' := ?_) (bmr 17 2047) rfl rfl (any_of HT_.out (by as_aux_lemma => kernel_rfl)) (fun _ _ _ h => h) (Or.inr ⟨by rfl, rfl⟩) ?_ ?_
            rotate_left
            · simp only [Act.put, List.setIfInBounds_toArray, List.set_cons_zero, List.set_cons_succ, i64_w, i32_w]
              rfl
            refine pure_ (i := 11) (N := some 248) (v := undef) (a' := ?_) (bmr 17 4095) rfl rfl (any_of HT_.out (by as_aux_lemma => kernel_rfl)) (fun _ _ _ h => h) (Or.inr ⟨by rfl, rfl⟩) ?_ ?_
            rotate_left
            · simp only [Act.put, List.setIfInBounds_toArray, List.set_cons_zero, List.set_cons_succ, i64_w, i32_w]
              rfl
            refine pure_ (i := 12) (N := some 249) (v := undef) (a' := ?_) (bmr 17 8191) rfl rfl (any_of HT_.out (by as_aux_lemma => kernel_rfl)) (fun _ _ _ h => h) (Or.inr ⟨by rfl, rfl⟩) ?_ ?_
            rotate_left
            · simp only [Act.put, List.setIfInBounds_toArray, List.set_cons_zero, List.set_cons_succ, i64_w, i32_w]
              rfl
            refine pure_ (i := 13) (N := some 250) (v := undef) (a' := ?_) (bmr 17 16383) rfl rfl (any_of HT_.out (by as_aux_lemma => kernel_rfl)) (fun _ _ _ h => h) (Or.inr ⟨by rfl, rfl⟩) ?_ ?_
            rotate_left
            · simp only [Act.put, List.setIfInBounds_toArray, List.set_cons_zero, List.set_cons_succ, i64_w, i32_w]
              rfl
            refine pure_ (i := 14) (N := some 251) (v := undef) (a' := ?_) (bmr 17 32767) rfl rfl (any_of HT_.out (by as_aux_lemma => kernel_rfl)) (fun _ _ _ h => h) (Or.inr ⟨by rfl, rfl⟩) ?_ ?_
            rotate_left
            · simp only [Act.put, List.setIfInBounds_toArray, List.set_cons_zero, List.set_cons_succ, i64_w, i32_w]
              rfl
            refine pure_ (i := 15) (N := some 252) (v := undef) (a' := ?_) (bmr 17 65535) rfl rfl (any_of HT_.out (by as_aux_lemma => kernel_rfl)) (fun _ _ _ h => h) (Or.inr ⟨by rfl, rfl⟩) ?_ ?_
            rotate_left
            · simp only [Act.put, List.setIfInBounds_toArray, List.set_cons_zero, List.set_cons_succ, i64_w, i32_w]
              rfl
            refine pure_ (i := 16) (N := some 253) (v := ?_) (a' := ?_) (bmr 17 131071) rfl rfl (any_of HT_.out (by as_aux_lemma => kernel_rfl)) (fun _ _ _ h => h) (Or.inl ⟨by rfl, ?_⟩) ?_ ?_
            rotate_left
            · intro w'
              go_simp
              with_reducible rfl
            rotate_left
            · simp only [Act.put, List.setIfInBounds_toArray, List.set_cons_zero, List.set_cons_succ, i64_w, i32_w]
              rfl
            refine done_ (done_of HT_.out (by as_aux_lemma => kernel_rfl)) ?_
            
            go_wp2
            go_ret
            exact ⟨congrArg (fun b => Ending.returned (.bool b)) er.out.symm, hHeld.2.2.2.2.out.b⟩
          | true =>
          refine start_ (n := 17) (S := fun w' => w'.cell? ⟨w.heap.size, 21, none⟩ = some (.slice (some adA) x.objects.length cx21) ∧ w'.cell? ⟨w.heap.size + 1, 21, none⟩ = some (.slice (some adB) y.objects.length cy21) ∧ w'.cell? (adA.add (k2 * 2)) = some (.int .u8 ex.f0) ∧ w'.cell? (adB.add (k2 * 2)) = some (.int .u8 ey.f0) ∧ Aside0 (Hd w (fun W => (True ∧ W.heap[w.heap.size]? = some (.cells cx 30 (0, 0))) ∧ W.heap[w.heap.size + 1]? = some (.cells cy 30 (0, 0))) w')) (ds := []) (bmr 17 0) (by as_aux_lemma => kernel_rfl) rfl (by as_aux_lemma => kernel_rfl) ⟨((blk_cell Hd0.out.f.1.2 21).trans LX21.out), ((blk_cell Hd0.out.f.2 21).trans LY21.out), ((Hd0.out.b.cell (World.block_lt_of_cell? w _ X0_.out)).trans X0_.out), ((Hd0.out.b.cell (World.block_lt_of_cell? w _ Y0_.out)).trans Y0_.out), Hd0⟩ (fun hHeld => ?_)
          refine with_tabW refs.tab22 refs.bits22 (fun HT_ HW_ => ?_)
          refine pure_ (i := 0) (N := some 237) (v := ?_) (a' := ?_) (bmr 17 1) rfl rfl (any_of HT_.out (by as_aux_lemma => kernel_rfl)) (fun _ _ _ h => h) (Or.inl ⟨by rfl, ?_⟩) ?_ ?_
          rotate_left
          · intro w'
            go_simp
            with_reducible rfl
          rotate_left
          · simp only [Act.put, List.setIfInBounds_toArray, List.set_cons_zero, List.set_cons_succ, i64_w, i32_w]
            rfl
          refine pure_ (i := 1) (N := some 238) (v := ?_) (a' := ?_) (bmr 17 3) rfl rfl (any_of HT_.out (by as_aux_lemma => kernel_rfl)) (fun _ _ _ h => h) (Or.inl ⟨by rfl, ?_⟩) ?_ ?_
          rotate_left
          · intro w'
            go_simp
            with_reducible rfl
          rotate_left
          · simp only [Act.put, List.setIfInBounds_toArray, List.set_cons_zero, List.set_cons_succ, i64_w, i32_w]
            rfl
          refine pure_ (i := 2) (N := some 239) (v := ?_) (a' := ?_) (bmr 17 7) rfl rfl (any_of HT_.out (by as_aux_lemma => kernel_rfl)) (fun _ _ _ h => h) (Or.inl ⟨by rfl, ?_⟩) ?_ ?_
          rotate_left
          · intro w'
            go_simp
            with_reducible rfl
          rotate_left
          · simp only [Act.put, List.setIfInBounds_toArray, List.set_cons_zero, List.set_cons_succ, i64_w, i32_w]
            rfl
          refine pure_ (i := 3) (N := some 240) (v := ?_) (a' := ?_) (bmr 17 15) rfl rfl (any_of HT_.out (by as_aux_lemma => kernel_rfl)) (fun _ _ _ h => h) (Or.inl ⟨by rfl, ?_⟩) ?_ ?_
          rotate_left
          · intro w'
            go_simp
            with_reducible rfl
          rotate_left
          · simp only [Act.put, List.setIfInBounds_toArray, List.set_cons_zero, List.set_cons_succ, i64_w, i32_w]
            rfl
          refine pure_ (i := 5) (N := some 242) (v := ?_) (a' := ?_) (bmr 17 47) rfl rfl (any_of HT_.out (by as_aux_lemma => kernel_rfl)) (fun _ _ _ h => h) (Or.inl ⟨by rfl, ?_⟩) ?_ ?_
          rotate_left
          · intro w'
            go_simp
            with_reducible rfl
          rotate_left
          · simp only [Act.put, List.setIfInBounds_toArray, List.set_cons_zero, List.set_cons_succ, i64_w, i32_w]
            rfl
          refine pure_ (i := 9) (N := some 246) (v := ?_) (a' := ?_) (bmr 17 559) rfl rfl (any_of HT_.out (by as_aux_lemma => kernel_rfl)) (fun _ _ _ h => h) (Or.inl ⟨by rfl, ?_⟩) ?_ ?_
          rotate_left
          · intro w'
            go_simp
            with_reducible rfl
          rotate_left
          · simp only [Act.put, List.setIfInBounds_toArray, List.set_cons_zero, List.set_cons_succ, i64_w, i32_w]
            rfl
          refine pure_ (i := 11) (N := some 248) (v := ?_) (a' := ?_) (bmr 17 2607) rfl rfl (any_of HT_.out (by as_aux_lemma => kernel_rfl)) (fun _ _ _ h => h) (Or.inl ⟨by rfl, ?_⟩) ?_ ?_
          rotate_left
          · intro w'
            go_simp
            with_reducible rfl
          rotate_left
          · simp only [Act.put, List.setIfInBounds_toArray, List.set_cons_zero, List.set_cons_succ, i64_w, i32_w]
            rfl
          refine take_ (i := 4) (N := some 241) (v := ?_) (a' := ?_) (bmr 17 2623) rfl rfl (take_ofW HT_.out HW_.out (by as_aux_lemma => kernel_rfl)) (fun _ _ _ h => h) (Or.inl ⟨by rfl, ?_⟩) hHeld ?_ ?_
          rotate_left
          · rintro w' ⟨s0, s1, s2, s3, s4⟩
            go_simp
            with_reducible rfl
          rotate_left
          · simp only [Act.put, List.setIfInBounds_toArray, List.set_cons_zero, List.set_cons_succ, i64_w, i32_w]
            rfl
          refine pure_ (i := 6) (N := some 243) (v := ?_) (a' := ?_) (bmr 17 2687) rfl rfl (any_of HT_.out (by as_aux_lemma => kernel_rfl)) (fun _ _ _ h => h) (Or.inl ⟨by rfl, ?_⟩) ?_ ?_
          rotate_left
          · intro w'
            go_simp
            with_reducible rfl
          rotate_left
          · simp only [Act.put, List.setIfInBounds_toArray, List.set_cons_zero, List.set_cons_succ, i64_w, i32_w]
            rfl
          refine pure_ (i := 7) (N := some 244) (v := ?_) (a' := ?_) (bmr 17 2815) rfl rfl (any_of HT_.out (by as_aux_lemma => kernel_rfl)) (fun _ _ _ h => h) (Or.inl ⟨by rfl, ?_⟩) ?_ ?_
          rotate_left
          · intro w'
            go_simp
            with_reducible rfl
          rotate_left
          · simp only [Act.put, List.setIfInBounds_toArray, List.set_cons_zero, List.set_cons_succ, i64_w, i32_w]
            rfl
          refine take_ (i := 8) (N := some 245) (v := ?_) (a' := ?_) (bmr 17 3071) rfl rfl (take_ofW HT_.out HW_.out (by as_aux_lemma => kernel_rfl)) (fun _ _ _ h => h) (Or.inl ⟨by rfl, ?_⟩) hHeld ?_ ?_
          rotate_left
          · rintro w' ⟨s0, s1, s2, s3, s4⟩
            go_simp
            with_reducible rfl
          rotate_left
          · simp only [Act.put, List.setIfInBounds_toArray, List.set_cons_zero, List.set_cons_succ, i64_w, i32_w]
            rfl
          refine take_ (i := 10) (N := some 247) (v := ?_) (a' := ?_) (bmr 17 4095) rfl rfl (take_ofW HT_.out HW_.out (by as_aux_lemma => kernel_rfl)) (fun _ _ _ h => h) (Or.inl ⟨by rfl, ?_⟩) hHeld ?_ ?_
          rotate_left
          · rintro w' ⟨s0, s1, s2, s3, s4⟩
            go_simp
            with_reducible rfl
          rotate_left
          · simp only [Act.put, List.setIfInBounds_toArray, List.set_cons_zero, List.set_cons_succ, i64_w, i32_w]
            rfl
          refine pure_ (i := 12) (N := some 249) (v := ?_) (a' := ?_) (bmr 17 8191) rfl rfl (any_of HT_.out (by as_aux_lemma => kernel_rfl)) (fun _ _ _ h => h) (Or.inl ⟨by rfl, ?_⟩) ?_ ?_
          rotate_left
          · intro w'
            go_simp
            with_reducible rfl
          rotate_left
          · simp only [Act.put, List.setIfInBounds_toArray, List.set_cons_zero, List.set_cons_succ, i64_w, i32_w]
            rfl
          refine pure_ (i := 13) (N := some 250) (v := ?_) (a' := ?_) (bmr 17 16383) rfl rfl (any_of HT_.out (by as_aux_lemma => kernel_rfl)) (fun _ _ _ h => h) (Or.inl ⟨by rfl, ?_⟩) ?_ ?_
          rotate_left
          · intro w'
            go_simp
            with_reducible rfl
          rotate_left
          · simp only [Act.put, List.setIfInBounds_toArray, List.set_cons_zero, List.set_cons_succ, i64_w, i32_w]
            rfl
          refine take_ (i := 14) (N := some 251) (v := ?_) (a' := ?_) (bmr 17 32767) rfl rfl (take_ofW HT_.out HW_.out (by as_aux_lemma => kernel_rfl)) (fun _ _ _ h => h) (Or.inl ⟨by rfl, ?_⟩) hHeld ?_ ?_
          rotate_left
          · rintro w' ⟨s0, s1, s2, s3, s4⟩
            go_simp
            with_reducible rfl
          rotate_left
          · simp only [Act.put, List.setIfInBounds_toArray, List.set_cons_zero, List.set_cons_succ, i64_w, i32_w]
            rfl
          refine pure_ (i := 15) (N := some 252) (v := ?_) (a' := ?_) (bmr 17 65535) rfl rfl (any_of HT_.out (by as_aux_lemma => kernel_rfl)) (fun _ _ _ h => h) (Or.inl ⟨by rfl, ?_⟩) ?_ ?_
          rotate_left
          · intro w'
            go_simp
            with_reducible rfl
          rotate_left
          · simp only [Act.put, List.setIfInBounds_toArray, List.set_cons_zero, List.set_cons_succ, i64_w, i32_w]
            rfl
          refine pure_ (i := 16) (N := some 253) (v := ?_) (a' := ?_) (bmr 17 131071) rfl rfl (any_of HT_.out (by as_aux_lemma => kernel_rfl)) (fun _ _ _ h => h) (Or.inl ⟨by rfl, ?_⟩) ?_ ?_
          rotate_left
          · intro w'
            go_simp
            with_reducible rfl
          rotate_left
          · simp only [Act.put, List.setIfInBounds_toArray, List.set_cons_zero, List.set_cons_succ, i64_w, i32_w]
            rfl
          refine done_ (done_of HT_.out (by as_aux_lemma => kernel_rfl)) ?_
          
          cases hq0 : (ex.f0 == ey.f0) with
          | false =>
            have hn : (ex.f0 != ey.f0) = true := by rw [bne, hq0]; rfl
            have er := Aside0.mk (show R_ = false by rw [HD.out, objB, hq0, Bool.false_and, Bool.false_and])
            clear hq0
            go_wp2
            go_ret
            exact ⟨congrArg (fun b => Ending.returned (.bool b)) er.out.symm, hHeld.2.2.2.2.out.b⟩
          | true =>
          have hn : (ex.f0 != ey.f0) = false := by rw [bne, hq0]; rfl
          have er := Aside0.mk (show R_ = listB objB (x.objects.drop (k2 + 1)) (y.objects.drop (k2 + 1)) by rw [HD.out, objB, hq0, HQ.out]; rfl)
          clear hq0
          go_wp2
          go_roundw
          case rel => exact ⟨k2 + 1, by omega, by go_num, er, hHeld.2.2.2.2⟩
          case measure => simp [intOf]; omega
        · have er := Aside0.mk (show R_ = true by rw [HL.out, List.drop_eq_nil_of_le (by omega), List.drop_eq_nil_of_le (by rw [← Lobjects.out]; omega)]; rfl)
          go_wp2
          go_ret
          exact ⟨congrArg (fun b => Ending.returned (.bool b)) er.out.symm, H.out.b⟩
theorem refsame_msg {cx cy : Array Value} {x y : Msg} {w : World} (hx : IsMsg w cx x) (hy : IsMsg w cy y) : Calls Try.prog 14 #[.agg cx, .agg cy] w fun e w' => e = .returned (.bool (sameB x y)) ∧ Below w.heap.size w w' := by
  have es : sameB x y = (plainB x y && restB x y) := by unfold sameB restB; simp only [Bool.and_assoc]
  rw [es]
  cases hp : plainB x y with
  | false => exact refsame_ne hx hy hp
  | true => exact refsame_go hx hy hp
end Go.Proofs.Ytimclbhlgblifaa.Same
end
section
namespace Go.Proofs.Ytimclbhlgblifaa.Same
open Go.RowKit Go.Proofs.Ytimclbhlgblifaa.P Go.Proofs.Ytimclbhlgblifaa.E Go.Proofs.YtimclbhlgblifaaW.PrintWords Go.Proofs.YtimclbhlgblifaaW.PrintLast Go.Proofs.YtimclbhlgblifaaW.PrintMore
theorem listB_refl {α : Type} {f : α → α → Bool} (h : ∀ x, f x x = true) : ∀ l : List α, listB f l l = true
  | [] => rfl
  | x :: xs => by simp only [listB, h x, listB_refl h xs, Bool.and_self]
theorem listB_eq {α : Type} {f : α → α → Bool} (h : ∀ x y, f x y = true → x = y) : ∀ l m : List α, listB f l m = true → l = m
  | [], [], _ => rfl
  | x :: xs, y :: ys, e => by
    simp only [listB, Bool.and_eq_true] at e
    rw [h x y e.1, listB_eq h xs ys e.2]
  | [], _ :: _, e => by cases e
  | _ :: _, [], e => by cases e
theorem rec_refl (x) : recB x x = true := by simp [recB]
theorem obj_refl (x) : objB x x = true := by simp [objB]
theorem rec_eq (x y) (h : recB x y = true) : x = y := by
  unfold recB at h
  simp only [Bool.and_eq_true, beq_iff_eq] at h
  obtain ⟨⟨⟨h0, h1⟩, h2⟩, h3⟩ := h
  cases x; cases y; simp_all
theorem obj_eq (x y) (h : objB x y = true) : x = y := by
  unfold objB at h
  simp only [Bool.and_eq_true, beq_iff_eq] at h
  cases x; cases y; simp_all
theorem same_refl (x : Msg) : sameB x x = true := by
  unfold sameB plainB
  simp only [beq_self_eq_true, Bool.true_and, listB_refl rec_refl, listB_refl obj_refl]
theorem same_eq (x y : Msg) : sameB x y = true ↔ x = y := by
  constructor
  · intro h
    unfold sameB plainB at h
    simp only [Bool.and_eq_true, beq_iff_eq] at h
    obtain ⟨⟨⟨⟨⟨⟨⟨⟨⟨⟨⟨⟨⟨⟨⟨⟨⟨⟨⟨⟨⟨h0, h1⟩, h2⟩, h3⟩, h4⟩, h5⟩, h6⟩, h7⟩, h8⟩, h9⟩, h10⟩, h11⟩, h12⟩, h13⟩, h14⟩, h15⟩, h16⟩, k0⟩, k1⟩, k2⟩, k3⟩, k4⟩ := h
    have e3 := listB_eq rec_eq _ _ k3
    have e4 := listB_eq obj_eq _ _ k4
    cases x; cases y; simp_all
  · rintro rfl
    exact same_refl x
end Go.Proofs.Ytimclbhlgblifaa.Same
end
section
namespace Go.Proofs.Ytimclbhlgblifaa.Same
open Go.RowKit Go.Proofs.Ytimclbhlgblifaa.P Go.Proofs.Ytimclbhlgblifaa.E Go.Proofs.YtimclbhlgblifaaW.PrintWords Go.Proofs.YtimclbhlgblifaaW.PrintLast Go.Proofs.YtimclbhlgblifaaW.PrintMore
def fewB (m : Msg) : Bool := decide (m.words.length ≤ 300 ∧ m.bits.length ≤ 2500 ∧ m.data.length ≤ 300 ∧ m.recs.length ≤ 50 ∧ m.objects.length ≤ 100) && ((m.recs.all fun o => decide (o.f3.length ≤ 200)) && (m.objects.all fun o => decide (o.f1.length ≤ 300)))
set_option maxHeartbeats 16000000 in
set_option maxRecDepth 100000 in
theorem few_no {cx : Array Value} {m : Msg} {w : World} (hm : IsMsg w cx m) (h : ¬ (m.words.length ≤ 300 ∧ m.bits.length ≤ 2500 ∧ m.data.length ≤ 300 ∧ m.recs.length ≤ 50 ∧ m.objects.length ≤ 100)) : Calls Try.prog 15 #[.agg cx] w fun e w' => e = .returned (.bool false) ∧ Below w.heap.size w w' := by
  obtain ⟨A12, c12, A13, c13, A14, c14, A15, c15, A21, c21, ⟨l12, l13, l14, l15, l21⟩, r12, r13, r14, r15, r21⟩ := hm.lists
  have hb := blk_new w (.cells cx 30 (0, 0))
  have k12 := (blk_cell hb 12).trans l12
  have k13 := (blk_cell hb 13).trans l13
  have k14 := (blk_cell hb 14).trans l14
  have k15 := (blk_cell hb 15).trans l15
  have k21 := (blk_cell hb 21).trans l21
  have R15 := Aside0.mk r15
  have R21 := Aside0.mk r21
  have HB := Aside0.mk hb
  have HW := Aside0.mk (below_alloc (Below.refl w.heap.size w) (.cells cx 30 (0, 0)))
  have hu1 := Try.underlying30
  clear l12 l13 l14 l15 l21 r12 r13 r14 r15 r21 hb
  have H := Aside0.mk h
  clear hm h
  go_enter Try.func15, Try.ntmps15
  go_upto_region 2 with (fail)
  all_goals first
    | (go_wp2; go_ret; exact ⟨rfl, HW.out⟩)
    | (exfalso; have := H.out; omega)
theorem drop_all {α : Type} (p : α → Bool) {l : List α} {i : Nat} (h : i < l.length) (d : α) : (l.drop i).all p = (p (l.getD i d) && (l.drop (i + 1)).all p) := by
  rw [drop_cons h d]
  rfl
set_option maxHeartbeats 16000000 in
set_option maxRecDepth 100000 in
theorem few_go {cx : Array Value} {m : Msg} {w : World} (hm : IsMsg w cx m) (h0 : m.words.length ≤ 300) (h1 : m.bits.length ≤ 2500) (h2 : m.data.length ≤ 300) (h3 : m.recs.length ≤ 50) (h4 : m.objects.length ≤ 100) : Calls Try.prog 15 #[.agg cx] w fun e w' => e = .returned (.bool ((m.recs.all fun o => decide (o.f3.length ≤ 200)) && (m.objects.all fun o => decide (o.f1.length ≤ 300)))) ∧ Below w.heap.size w w' := by
  obtain ⟨A12, c12, A13, c13, A14, c14, A15, c15, A21, c21, ⟨l12, l13, l14, l15, l21⟩, r12, r13, r14, r15, r21⟩ := hm.lists
  have hb := blk_new w (.cells cx 30 (0, 0))
  have k12 := (blk_cell hb 12).trans l12
  have k13 := (blk_cell hb 13).trans l13
  have k14 := (blk_cell hb 14).trans l14
  have k15 := (blk_cell hb 15).trans l15
  have k21 := (blk_cell hb 21).trans l21
  have R15 := Aside0.mk r15
  have R21 := Aside0.mk r21
  have HB := Aside0.mk hb
  have HW := Aside0.mk (below_alloc (Below.refl w.heap.size w) (.cells cx 30 (0, 0)))
  have hu1 := Try.underlying30
  clear l12 l13 l14 l15 l21 r12 r13 r14 r15 r21 hb
  have e0 : decide ((m.words.length : Int) > 300) = false := decide_eq_false (by omega)
  have e0_ : decide ((300 : Int) < (m.words.length : Int)) = false := decide_eq_false (by omega)
  have e1 : decide ((m.bits.length : Int) > 2500) = false := decide_eq_false (by omega)
  have e1_ : decide ((2500 : Int) < (m.bits.length : Int)) = false := decide_eq_false (by omega)
  have e2 : decide ((m.data.length : Int) > 300) = false := decide_eq_false (by omega)
  have e2_ : decide ((300 : Int) < (m.data.length : Int)) = false := decide_eq_false (by omega)
  have e3 : decide ((m.recs.length : Int) > 50) = false := decide_eq_false (by omega)
  have e3_ : decide ((50 : Int) < (m.recs.length : Int)) = false := decide_eq_false (by omega)
  have e4 : decide ((m.objects.length : Int) > 100) = false := decide_eq_false (by omega)
  have e4_ : decide ((100 : Int) < (m.objects.length : Int)) = false := decide_eq_false (by omega)
  have HR := Aside0.mk h3
  have HO := Aside0.mk h4
  have b3 : (m.recs.length : Int) ≤ 50 := by omega
  have b4 : (m.objects.length : Int) ≤ 100 := by omega
  clear hm h0 h1 h2 h3 h4
  generalize hP : (m.recs.all fun o => decide (o.f3.length ≤ 200)) = P
  generalize hO : (m.objects.all fun o => decide (o.f1.length ≤ 300)) = O
  have HP := Aside0.mk hP
  have HOO := Aside0.mk hO
  clear hP hO
  go_enter Try.func15, Try.ntmps15
  go_wp2
  go_loopw [3] (fun i wr => ∃ k : Nat, k ≤ m.recs.length ∧ i = .int .i64 k ∧ Aside0 (P = (m.recs.drop k).all fun o => decide (o.f3.length ≤ 200)) ∧ wr = w.alloc (.cells cx 30 (0, 0))) (fun i _ => m.recs.length - (intOf i).toNat)
  case atStart => exact ⟨0, Nat.zero_le _, rfl, ⟨HP.out.symm⟩, rfl⟩
  case round =>
    obtain ⟨k, hk, rfl, HL, rfl⟩ := hrel
    by_cases hlt : k < m.recs.length
    · obtain ⟨ad, A3, cA3, rfl, x0, x1, x2, x3, gA, qA⟩ := at_T64 R15.out.1 (k : Int) (by omega) (by omega)
      rw [Int.toNat_natCast] at x3
      have y3 := (HW.out.cell (World.block_lt_of_cell? w _ x3)).trans x3
      have e1 := drop_all (fun o : S64 => decide (o.f3.length ≤ 200)) hlt z64
      rw [← HL.out] at e1
      have e2 : rd_T64 m.recs (k : Int) = m.recs.getD k z64 := by unfold rd_T64; rw [Int.toNat_natCast]
      rw [e2] at y3 qA gA
      generalize (m.recs.getD k z64).f3 = f3 at *
      have qL : f3.length ≤ 9223372036854775807 := qA.2.1
      clear x0 x1 x2 x3 e2 qA gA
      by_cases hf : f3.length ≤ 200
      · have d1 : decide ((f3.length : Int) > 200) = false := decide_eq_false (by omega)
        have d2 : decide ((200 : Int) < (f3.length : Int)) = false := decide_eq_false (by omega)
        rw [decide_eq_true hf, Bool.true_and] at e1
        have E1 := Aside0.mk e1
        clear e1 hf
        go_wp2
        go_roundw
        case rel => exact ⟨k + 1, by omega, by go_num, E1, by first | rfl | trivial⟩
        case measure => simp [intOf]; omega
      · have d1 : decide ((f3.length : Int) > 200) = true := decide_eq_true (by omega)
        have d2 : decide ((200 : Int) < (f3.length : Int)) = true := decide_eq_true (by omega)
        rw [decide_eq_false hf, Bool.false_and] at e1
        have E1 := Aside0.mk e1
        clear e1 hf
        go_wp2
        go_ret
        exact ⟨congrArg (fun b => Ending.returned (.bool b)) (show false = (P && O) by rw [E1.out]; rfl), HW.out⟩
    · have ek : P = true := by rw [HL.out, List.drop_eq_nil_of_le (by omega)]; rfl
      have EK := Aside0.mk ek
      clear ek
      go_wp2
      go_loopw [4] (fun i wr => ∃ k : Nat, k ≤ m.objects.length ∧ i = .int .i64 k ∧ Aside0 (O = (m.objects.drop k).all fun o => decide (o.f1.length ≤ 300)) ∧ wr = w.alloc (.cells cx 30 (0, 0))) (fun i _ => m.objects.length - (intOf i).toNat)
      case atStart => exact ⟨0, Nat.zero_le _, rfl, ⟨HOO.out.symm⟩, rfl⟩
      case round =>
        obtain ⟨j, hj, rfl, HL2, rfl⟩ := hrel
        by_cases hlt2 : j < m.objects.length
        · obtain ⟨ad, A1, cA1, rfl, x0, x1, gA, qA⟩ := at_T43 R21.out.1 (j : Int) (by omega) (by omega)
          rw [Int.toNat_natCast] at x1
          have y1 := (HW.out.cell (World.block_lt_of_cell? w _ x1)).trans x1
          have e1 := drop_all (fun o : S43 => decide (o.f1.length ≤ 300)) hlt2 z43
          rw [← HL2.out] at e1
          have e2 : rd_T43 m.objects (j : Int) = m.objects.getD j z43 := by unfold rd_T43; rw [Int.toNat_natCast]
          rw [e2] at y1 qA gA
          generalize (m.objects.getD j z43).f1 = f1 at *
          have qL : f1.length ≤ 9223372036854775807 := qA.2.1
          clear x0 x1 e2 qA gA
          by_cases hf : f1.length ≤ 300
          · have d1 : decide ((f1.length : Int) > 300) = false := decide_eq_false (by omega)
            have d2 : decide ((300 : Int) < (f1.length : Int)) = false := decide_eq_false (by omega)
            rw [decide_eq_true hf, Bool.true_and] at e1
            have E1 := Aside0.mk e1
            clear e1 hf
            go_wp2
            go_roundw
            case rel => exact ⟨j + 1, by omega, by go_num, E1, by first | rfl | trivial⟩
            case measure => simp [intOf]; omega
          · have d1 : decide ((f1.length : Int) > 300) = true := decide_eq_true (by omega)
            have d2 : decide ((300 : Int) < (f1.length : Int)) = true := decide_eq_true (by omega)
            rw [decide_eq_false hf, Bool.false_and] at e1
            have E1 := Aside0.mk e1
            clear e1 hf
            go_wp2
            go_ret
            exact ⟨congrArg (fun b => Ending.returned (.bool b)) (show false = (P && O) by rw [E1.out, Bool.and_false]), HW.out⟩
        · have eo : O = true := by rw [HL2.out, List.drop_eq_nil_of_le (by omega)]; rfl
          have EO := Aside0.mk eo
          clear eo
          go_wp2
          go_ret
          exact ⟨congrArg (fun b => Ending.returned (.bool b)) (show true = (P && O) by rw [EK.out, EO.out]; rfl), HW.out⟩
theorem few_msg {cx : Array Value} {x : Msg} {w : World} (hx : IsMsg w cx x) : Calls Try.prog 15 #[.agg cx] w fun e w' => e = .returned (.bool (fewB x)) ∧ Below w.heap.size w w' := by
  unfold fewB
  by_cases h : x.words.length ≤ 300 ∧ x.bits.length ≤ 2500 ∧ x.data.length ≤ 300 ∧ x.recs.length ≤ 50 ∧ x.objects.length ≤ 100
  · rw [decide_eq_true h, Bool.true_and]
    exact few_go hx h.1 h.2.1 h.2.2.1 h.2.2.2.1 h.2.2.2.2
  · rw [decide_eq_false h, Bool.false_and]
    exact few_no hx h
end Go.Proofs.Ytimclbhlgblifaa.Same
end
section
namespace Go.Proofs.Ytimclbhlgblifaa.Same
open Go.RowKit Go.Proofs.Ytimclbhlgblifaa.P Go.Proofs.Ytimclbhlgblifaa.E Go.Proofs.YtimclbhlgblifaaW.PrintWords Go.Proofs.YtimclbhlgblifaaW.PrintLast Go.Proofs.YtimclbhlgblifaaW.PrintMore
theorem heap_xa (w : World) (cx cy : Array Value) (t : TypeId) : ((w.alloc (.cells cx t)).alloc (.cells cy t)).heap[w.heap.size]? = some (.cells cx t (0, 0)) := heap_x w cx cy t
theorem heap_ya (w : World) (cx cy : Array Value) (t : TypeId) : ((w.alloc (.cells cx t)).alloc (.cells cy t)).heap[w.heap.size + 1]? = some (.cells cy t (0, 0)) := heap_y w cx cy t
structure Two (w : World) (cx cy : Array Value) (t : TypeId) (W : World) : Prop where
  x : W.heap[w.heap.size]? = some (.cells cx t (0, 0))
  y : W.heap[w.heap.size + 1]? = some (.cells cy t (0, 0))
  b : Below w.heap.size w W
theorem Two.start (w : World) (cx cy : Array Value) (t : TypeId) : Two w cx cy t ((w.alloc (.cells cx t)).alloc (.cells cy t)) := ⟨heap_xa _ _ _ _, heap_ya _ _ _ _, ((Below.refl _ _).alloc (Nat.le_refl _) _).alloc (by simp) _⟩
theorem Two.on {w W W' : World} {cx cy : Array Value} {t : TypeId} (h : Two w cx cy t W) (hb : Below W.heap.size W W') : Two w cx cy t W' :=
  ⟨(hb.block _ (heap_lt' h.x)).trans h.x, (hb.block _ (heap_lt' h.y)).trans h.y, h.b.trans (hb.mono h.b.size)⟩
theorem Two.drew {w W : World} {cx cy : Array Value} {t : TypeId} (h : Two w cx cy t W) : Two w cx cy t W.drew := ⟨h.x, h.y, h.b.drew⟩
end Go.Proofs.Ytimclbhlgblifaa.Same
end
section
namespace Go.Proofs.Ytimclbhlgblifaa.Same
open Go.RowKit Go.Proofs.Ytimclbhlgblifaa.P Go.Proofs.Ytimclbhlgblifaa.E Go.Proofs.YtimclbhlgblifaaW.PrintWords Go.Proofs.YtimclbhlgblifaaW.PrintLast Go.Proofs.YtimclbhlgblifaaW.PrintMore
structure Up1 (g : Nat) (w w' : World) : Prop where
  os : w'.os = w.os
  tape : w'.tape = w.tape
  output : w'.output = w.output
  kept : Kept w w' (fun k => k = g)
theorem Up1.below {g B : Nat} {w w' : World} (h : Up1 g w w') (hB : B ≤ g) (hs : B ≤ w.heap.size) : Below B w w' := ⟨h.os, h.tape, h.output, h.kept.1, fun k hk => h.kept.2 k (by omega) (by omega)⟩
theorem Up1.blk {g k : Nat} {w w' : World} {o : Obj} (h : Up1 g w w') (hk : w.heap[k]? = some o) (hne : k ≠ g) : w'.heap[k]? = some o := blk_kept hk h.kept hne
theorem setCells_blk {w : World} {g : Nat} {cur cx : Array Value} {t : TypeId} (hb : w.heap[g]? = some (.cells cur t (0, 0))) (hs : cur.size = cx.size) : (w.setCells g 0 cx.toList).heap[g]? = some (.cells cx t (0, 0)) ∧ Up1 g w (w.setCells g 0 cx.toList) := by
  obtain ⟨cur', h1, h2, h3⟩ := setCells_row cx.toList 0 w cur hb (by simp [hs])
  have e : cur' = cx := by
    apply Array.ext'
    rw [h3]
    simp [hs]
  rw [e] at h1
  obtain ⟨a1, a2, a3, a4⟩ := setCells_same g cx.toList 0 w
  exact ⟨h1, a1, a2, a3, by rw [a4]; exact Nat.le_refl _, fun k hk hn => setCells_far cx.toList 0 k hn⟩
theorem run_store_row {P : Program} {w : World} {g : Nat} {cur cx : Array Value} {t ty : TypeId} (hb : w.heap[g]? = some (.cells cur t (0, 0))) (hs : cur.size = cx.size) (hi : (P.info? ty).map (·.size) = some cx.size) (h1 : cx.all (·.oneCell') = true) :
    (Instr.storeAt ty (.pointer (some ⟨g, 0, none⟩)) (.agg cx)).run P w = .ok () (w.setCells g 0 cx.toList) := by
  refine run_storeAt_mid w g 0 ty cx (fun j hj => ?_) hi h1
  rw [Nat.zero_add]
  have := blk_cell hb j
  have hj' : j < cur.size := by omega
  exact ⟨by rw [this]; simp [hj'], blk_frozen hb j⟩
theorem wpList_store_row {P : Program} {ops : Array Oper} {rest : List Oper} {op : Oper} {a : Act} {w : World} {Q : Exit → Act → World → Prop} (ty : TypeId) (x y : Operand) {g : Nat} {cur cx : Array Value} {t : TypeId}
    (ho : op.op = .store ty x y) (hgd : op.guard = none) (hx : a.eval x = .pointer (some ⟨g, 0, none⟩)) (hy : a.eval y = .agg cx) (hb : w.heap[g]? = some (.cells cur t (0, 0))) (hs : cur.size = cx.size) (hi : (P.info? ty).map (·.size) = some cx.size) (h1 : cx.all (·.oneCell') = true)
    (h : ∀ w', w'.heap[g]? = some (.cells cx t (0, 0)) → Up1 g w w' → wpList P ops Q rest (a.put op.dst undef) w') : wpList P ops Q (op :: rest) a w := by
  refine wpList_plain hgd fun _ hK => ?_
  unfold Oper.wp execOp
  have hr := run_store_row (P := P) (ty := ty) hb hs hi h1
  simp only [ho, hx, hy, hr, Sem.run_bind, Sem.run_pure, Result.andThen_ok]
  obtain ⟨b1, b2⟩ := setCells_blk hb hs
  exact hK _ _ (h _ b1 b2)
theorem gate_op {P : Program} {ops : Array Oper} {rest : List Oper} {op : Oper} {a : Act} {w : World} {Q : Exit → Act → World → Prop} {u : Op} (_ : op.op = u) (h : wpList P ops Q (op :: rest) a w) : wpList P ops Q (op :: rest) a w := h
def zeroM : Msg := ⟨0, 0, 0, 0, 0, 0, 0, 0, 0, 0, 0, 0, [], [], [], [], 0, 0, 0, 0, 0, []⟩
def zeroC : Array Value := #[.int .u8 0, .int .u8 0, .int .u16 0, .int .u16 0, .int .u16 0, .int .u16 0, .int .u16 0, .int .u16 0, .int .u16 0, .int .u16 0, .int .u16 0, .int .u16 0, .slice none 0 0, .slice none 0 0, .slice none 0 0, .slice none 0 0, .int .u8 0, .int .u8 0, .int .u8 0, .int .u8 0, .int .u8 0, .slice none 0 0]
theorem zero_good : goodM zeroM := by
  refine ⟨by decide, ?_, ?_, ?_⟩
  · intro x h; cases h
  · intro x h; cases h
  · intro x h; cases h
theorem nil_row {α : Type} (d : Kd α) (w : World) : Kd.C d w none ([] : List α).length [] ∧ ([] : List α).length ≤ 0 := ⟨Kd.C_nil d w, Nat.le_refl _⟩
theorem zero_is (w : World) : IsMsg w zeroC zeroM := by
  refine ⟨none, 0, none, 0, none, 0, none, 0, none, 0, ?_, zero_good, ?_⟩
  · rfl
  · exact ⟨nil_row _ w, nil_row _ w, nil_row _ w, nil_row _ w, nil_row _ w⟩
theorem run_alloc_msg (ev : Operand → Value) (o : Oper) (ho : o.op = .alloc 30) (W : World) : (execOp ev o).run Try.prog W = .ok (.value (.pointer (some ⟨W.heap.size, 0, none⟩))) (W.alloc (.cells zeroC 30 (0, 0))) := by
  unfold execOp
  rw [ho]
  kernel_rfl
theorem ev_alloc {ops : Array Oper} {rest : List Oper} {o : Oper} {a : Act} {w : World} {Q : Exit → Act → World → Prop} (ho : o.op = .alloc 30) (hgd : o.guard = none)
    (h : ∀ g w1, g = w.heap.size → w1.heap[g]? = some (.cells zeroC 30 (0, 0)) → Below w.heap.size w w1 → wpList Try.prog ops Q rest (a.put o.dst (.pointer (some ⟨g, 0, none⟩))) w1) : wpList Try.prog ops Q (o :: rest) a w :=
  Kd.event_run hgd (run_alloc_msg a.eval o ho w) (h _ _ rfl (blk_new w _) (below_alloc (Below.refl _ _) _))
theorem ev_build {P : Program} {ops : Array Oper} {rest : List Oper} {o : Oper} {a : Act} {w : World} {Q : Exit → Act → World → Prop} (cs : Array Value) (hgd : o.guard = none) (hrun : (execOp a.eval o).run P w = .ok (.value (.agg cs)) w)
    (h : ∀ cx, cx = cs → wpList P ops Q rest (a.put o.dst (.agg cx)) w) : wpList P ops Q (o :: rest) a w := Kd.event_run hgd hrun (h _ rfl)
theorem C_block (q : IntKind) (xs : List Int) {w : World} {g : Nat} {t : TypeId} (hb : w.heap[g]? = some (.cells (xs.map (Value.int q)).toArray t (0, 0))) (hl : xs.length ≤ 1000000) : Kd.C (Kd.int q) w (some ⟨g, 0, none⟩) xs.length xs := by
  refine Kd.C_of_reads (d := 0) ⟨rfl, by omega, fun _ => ⟨_, rfl, fun j hj => ?_⟩⟩
  have e : (⟨g, 0, none⟩ : Addr).add j = ⟨g, j, none⟩ := by unfold Addr.add; split <;> simp_all
  rw [e, blk_cell hb j]
  simp [hj]
theorem ev_lit {P : Program} {ops : Array Oper} {rest : List Oper} {o : Oper} {a : Act} {w : World} {Q : Exit → Act → World → Prop} (q : IntKind) (xs : List Int) (t : TypeId) (hgd : o.guard = none)
    (hrun : (execOp a.eval o).run P w = .ok (.value (.slice (some ⟨w.heap.size, 0, none⟩) xs.length xs.length)) (w.alloc (.cells (xs.map (Value.int q)).toArray t (0, 0)))) (hl : xs.length ≤ 1000000)
    (h : ∀ A c w1 bs, bs = xs → Kd.C (Kd.int q) w1 A bs.length bs → bs.length ≤ c → Below w.heap.size w w1 → wpList P ops Q rest (a.put o.dst (.slice A bs.length c)) w1) : wpList P ops Q (o :: rest) a w :=
  Kd.event_run hgd hrun (h _ _ _ xs rfl (C_block q xs (blk_new w _) hl) (Nat.le_refl _) (below_alloc (Below.refl _ _) _))
structure Held (w0 : World) (L : List (Nat × Array Value)) (W : World) : Prop where
  b : Below w0.heap.size w0 W
  h : ∀ p ∈ L, w0.heap.size ≤ p.1 ∧ W.heap[p.1]? = some (.cells p.2 30 (0, 0))
  d : L.Pairwise (fun p q => p.1 ≠ q.1)
theorem Held.start (w : World) : Held w [] w := ⟨Below.refl _ _, (fun p h => by cases h), List.Pairwise.nil⟩
theorem Held.box (w : World) (cx : Array Value) : Held w [(w.heap.size, cx)] (w.alloc (.cells cx 30 (0, 0))) :=
  ⟨below_alloc (Below.refl _ _) _, fun p hp => by obtain rfl := List.mem_singleton.1 hp; exact ⟨Nat.le_refl _, blk_new _ _⟩, List.pairwise_singleton _ _⟩
theorem Held.on {w0 W W' : World} {L : List (Nat × Array Value)} (h : Held w0 L W) (hb : Below W.heap.size W W') : Held w0 L W' :=
  ⟨h.b.trans (hb.mono h.b.size), fun p hp => ⟨(h.h p hp).1, blk_below (h.h p hp).2 hb⟩, h.d⟩
theorem Held.drew {w0 W : World} {L : List (Nat × Array Value)} (h : Held w0 L W) : Held w0 L W.drew := ⟨h.b.drew, fun p hp => ⟨(h.h p hp).1, blk_drew (h.h p hp).2⟩, h.d⟩
theorem Held.at {w0 W : World} {L : List (Nat × Array Value)} (h : Held w0 L W) (i : Nat) {g : Nat} {cx : Array Value} (hi : L[i]? = some (g, cx)) : W.heap[g]? = some (.cells cx 30 (0, 0)) := (h.h (g, cx) (List.mem_of_getElem? hi)).2
theorem Held.new {w0 W W' : World} {L : List (Nat × Array Value)} {g : Nat} {cx : Array Value} (h : Held w0 L W) (hg : g = W.heap.size) (hblk : W'.heap[g]? = some (.cells cx 30 (0, 0))) (hb : Below W.heap.size W W') : Held w0 (L ++ [(g, cx)]) W' := by
  have h2 := h.on hb
  refine ⟨h2.b, fun p hp => ?_, List.pairwise_append.2 ⟨h.d, List.pairwise_singleton _ _, fun p hp q hq => ?_⟩⟩
  · rcases List.mem_append.1 hp with hp | hp
    · exact h2.h p hp
    · obtain rfl := List.mem_singleton.1 hp
      exact ⟨by rw [hg]; exact h.b.size, hblk⟩
  · obtain rfl := List.mem_singleton.1 hq
    have := blk_lt (h.h p hp).2
    show p.1 ≠ g
    omega
theorem Held.put {w0 W W' : World} {L : List (Nat × Array Value)} (h : Held w0 L W) (i : Nat) {g : Nat} {cx cy : Array Value} (hi : L[i]? = some (g, cx)) (hblk : W'.heap[g]? = some (.cells cy 30 (0, 0))) (hu : Up1 g W W') : Held w0 (L.set i (g, cy)) W' := by
  have hg := (h.h (g, cx) (List.mem_of_getElem? hi)).1
  obtain ⟨hlt, hval⟩ := List.getElem?_eq_some_iff.1 hi
  refine ⟨h.b.trans (hu.below hg h.b.size), fun p hp => ?_, ?_⟩
  · obtain ⟨j, hj, rfl⟩ := List.mem_iff_getElem.1 hp
    have hj' : j < L.length := by simpa using hj
    rw [List.getElem_set]
    split
    · exact ⟨hg, hblk⟩
    · rename_i hne
      have hmem := h.h L[j] (List.getElem_mem hj')
      refine ⟨hmem.1, hu.blk hmem.2 ?_⟩
      have hpw := List.pairwise_iff_getElem.1 h.d
      rcases Nat.lt_or_gt_of_ne hne with hl | hl
      · have := hpw i j hlt hj' hl
        rw [hval] at this
        exact fun e => this e.symm
      · have := hpw j i hj' hlt hl
        rw [hval] at this
        exact this
  · refine List.pairwise_iff_getElem.2 fun a b ha hb hab => ?_
    have ha' : a < L.length := by simpa using ha
    have hb' : b < L.length := by simpa using hb
    have hpw := List.pairwise_iff_getElem.1 h.d a b ha' hb' hab
    rw [List.getElem_set, List.getElem_set]
    split <;> split
    · rename_i e1 e2; omega
    · rename_i e1 _; subst e1; rw [hval] at hpw; exact hpw
    · rename_i _ e2; subst e2; rw [hval] at hpw; exact hpw
    · exact hpw
theorem ev_store {ops : Array Oper} {rest : List Oper} {op : Oper} {a : Act} {w w0 W0 : World} {Q : Exit → Act → World → Prop} {x y : Operand} {g : Nat} {L : List (Nat × Array Value)} {i : Nat} {cur cx : Array Value} {m : Msg}
    (ho : op.op = .store 30 x y) (hgd : op.guard = none) (hx : a.eval x = .pointer (some ⟨g, 0, none⟩)) (hy : a.eval y = .agg cx) (H : Held w0 L w) (hi : L[i]? = some (g, cur)) (hs : cur.size = 22) (M : IsMsg W0 cx m)
    (h : ∀ w', Held w0 (L.set i (g, cx)) w' → Up1 g w w' → wpList Try.prog ops Q rest (a.put op.dst undef) w') : wpList Try.prog ops Q (op :: rest) a w :=
  wpList_store_row 30 x y ho hgd hx hy (H.at i hi) (hs.trans M.size.symm) (msg_info M.size) M.one (fun w' h1 h2 => h w' (H.put i hi h1 h2) h2)
theorem ev_var {ops : Array Oper} {rest : List Oper} {o1 o2 : Oper} {a : Act} {w W0 : World} {Q : Exit → Act → World → Prop} {x y : Operand} {cx : Array Value} {m : Msg}
    (ho1 : o1.op = .alloc 30) (hg1 : o1.guard = none) (ho2 : o2.op = .store 30 x y) (hg2 : o2.guard = none) (hd2 : o2.dst = none) (M : IsMsg W0 cx m)
    (hx : (a.put o1.dst (.pointer (some ⟨w.heap.size, 0, none⟩))).eval x = .pointer (some ⟨w.heap.size, 0, none⟩)) (hy : (a.put o1.dst (.pointer (some ⟨w.heap.size, 0, none⟩))).eval y = .agg cx)
    (h : ∀ g w', g = w.heap.size → w'.heap[g]? = some (.cells cx 30 (0, 0)) → Below w.heap.size w w' → wpList Try.prog ops Q rest (a.put o1.dst (.pointer (some ⟨g, 0, none⟩))) w') : wpList Try.prog ops Q (o1 :: o2 :: rest) a w := by
  refine Kd.event_run hg1 (run_alloc_msg a.eval o1 ho1 w) ?_
  refine wpList_store_row 30 x y ho2 hg2 hx hy (blk_new w _) (M.size.symm ▸ rfl) (msg_info M.size) M.one (fun w' h1 h2 => ?_)
  rw [hd2]
  exact h _ w' rfl h1 ((below_alloc (Below.refl _ _) _).trans ((h2.below (Nat.le_refl _) (by simp)).mono (by simp)))
theorem ev_load {ops : Array Oper} {rest : List Oper} {op : Oper} {a : Act} {w w0 : World} {Q : Exit → Act → World → Prop} {x : Operand} {g : Nat} {L : List (Nat × Array Value)} {i : Nat} {cx : Array Value}
    (ho : op.op = .load 30 x) (hgd : op.guard = none) (hx : a.eval x = .pointer (some ⟨g, 0, none⟩)) (H : Held w0 L w) (hi : L[i]? = some (g, cx)) (hs : cx.size = 22)
    (h : wpList Try.prog ops Q rest (a.put op.dst (.agg cx)) w) : wpList Try.prog ops Q (op :: rest) a w :=
  wpList_load_row hgd 30 x ho g hx 30 cx (0, 0) _ (H.at i hi) Try.underlying30 rfl (msg_info hs) h
theorem store_ {ops : Array Oper} {oi : Oper} {a : Act} {w w0 W0 : World} {K : Act → World → Prop} {Q : Exit → Act → World → Prop} {x y : Operand} {g : Nat} {L : List (Nat × Array Value)} {i : Nat} {cur cx : Array Value} {m : Msg}
    (hw : Region.wanted oi (yielded ops a.tmps) = true) (hN : oi.dst = none) (ho : oi.op = .store 30 x y) (hx : a.eval x = .pointer (some ⟨g, 0, none⟩)) (hy : a.eval y = .agg cx) (H : Held w0 L w) (hi : L[i]? = some (g, cur)) (hs : cur.size = 22) (M : IsMsg W0 cx m)
    (h : ∀ w', Held w0 (L.set i (g, cx)) w' → Up1 g w w' → K a w') : if Region.wanted oi (yielded ops a.tmps) = true then Oper.wp Try.prog oi a w K Q else K (a.put none undef) w := by
  have hr := run_store_row (P := Try.prog) (ty := 30) (H.at i hi) (hs.trans M.size.symm) (msg_info M.size) M.one
  obtain ⟨b1, b2⟩ := setCells_blk (H.at i hi) (hs.trans M.size.symm)
  refine skip_ hw hN ?_ (h _ (H.put i hi b1 b2) b2)
  unfold execOp
  simp only [ho, hx, hy, hr, Sem.run_bind, Sem.run_pure, Result.andThen_ok]
theorem ev_get {ops : Array Oper} {rest : List Oper} {op : Oper} {a : Act} {w : World} {Q : Exit → Act → World → Prop} {x : Operand} {g : Nat} {cx : Array Value} {m : Msg} {W0 : World}
    (ho : op.op = .load 30 x) (hgd : op.guard = none) (hx : a.eval x = .pointer (some ⟨g, 0, none⟩)) (hb : w.heap[g]? = some (.cells cx 30 (0, 0))) (M : IsMsg W0 cx m)
    (h : wpList Try.prog ops Q rest (a.put op.dst (.agg cx)) w) : wpList Try.prog ops Q (op :: rest) a w :=
  wpList_load_row hgd 30 x ho g hx 30 cx (0, 0) _ hb Try.underlying30 rfl (msg_info M.size) h
end Go.Proofs.Ytimclbhlgblifaa.Same
end
section
namespace Go.Proofs.Ytimclbhlgblifaa.Com
open Go.RowKit Go.Proofs.Ytimclbhlgblifaa.P Go.Proofs.Ytimclbhlgblifaa.E Go.Proofs.Ytimclbhlgblifaa.Same Go.Proofs.YtimclbhlgblifaaW.PrintWords Go.Proofs.YtimclbhlgblifaaW.PrintLast Go.Proofs.YtimclbhlgblifaaW.PrintMore
def ParseC (fn : Nat) (dir code : Int) (l : List Int) (P : Msg × Int) : Prop := ∀ (A : Option Addr) (c : Nat) (W : World), Kd.C (Kd.int .u8) W A l.length l → l.length ≤ c → Calls Try.prog fn #[.int .i64 dir, .int .u8 code, .slice A l.length c] W fun en w' => ∃ cx, en = .returned (.tuple #[.agg cx, .int .i64 P.2]) ∧ IsMsg w' cx P.1 ∧ Below W.heap.size W w'
def LayC (fn : Nat) (dir : Int) (m : Msg) (l : List Int) : Prop := ∀ (cx : Array Value) (W : World), IsMsg W cx m → Calls Try.prog fn #[.int .i64 dir, .agg cx] W fun en w' => ∃ A c, en = .returned (.slice A l.length c) ∧ l.length ≤ c ∧ Kd.C (Kd.int .u8) w' A l.length l ∧ Below W.heap.size W w'
def WriteC (fn : Nat) (dir : Int) (m : Msg) (R : List Int × Int) : Prop := ∀ (cx : Array Value) (W : World), IsMsg W cx m → Calls Try.prog fn #[.int .i64 dir, .agg cx] W fun en w' => ∃ A c, en = .returned (.tuple #[.slice A R.1.length c, .int .i64 R.2]) ∧ R.1.length ≤ c ∧ Kd.C (Kd.int .u8) w' A R.1.length R.1 ∧ Below W.heap.size W w'
def AwakeC (fn : Nat) : Prop := ∀ W : World, Calls Try.prog fn #[] W fun en w' => en = .returned (.bool true) ∧ Below W.heap.size W w'
theorem ParseC.c {fn : Nat} {dir code : Int} {l : List Int} {P : Msg × Int} (h : ParseC fn dir code l P) {A : Option Addr} {c : Nat} {W : World} (hr : Kd.C (Kd.int .u8) W A l.length l) (hc : l.length ≤ c) : Calls Try.prog fn #[.int .i64 dir, .int .u8 code, .slice A l.length c] W fun en w' => ∃ cx, en = .returned (.tuple #[.agg cx, .int .i64 P.2]) ∧ IsMsg w' cx P.1 ∧ Below W.heap.size W w' := h A c W hr hc
theorem LayC.c {fn : Nat} {dir : Int} {m : Msg} {l : List Int} (h : LayC fn dir m l) {cx : Array Value} {W : World} (hm : IsMsg W cx m) : Calls Try.prog fn #[.int .i64 dir, .agg cx] W fun en w' => ∃ A c, en = .returned (.slice A l.length c) ∧ l.length ≤ c ∧ Kd.C (Kd.int .u8) w' A l.length l ∧ Below W.heap.size W w' := h cx W hm
theorem WriteC.c {fn : Nat} {dir : Int} {m : Msg} {R : List Int × Int} (h : WriteC fn dir m R) {cx : Array Value} {W : World} (hm : IsMsg W cx m) : Calls Try.prog fn #[.int .i64 dir, .agg cx] W fun en w' => ∃ A c, en = .returned (.tuple #[.slice A R.1.length c, .int .i64 R.2]) ∧ R.1.length ≤ c ∧ Kd.C (Kd.int .u8) w' A R.1.length R.1 ∧ Below W.heap.size W w' := h cx W hm
theorem WriteC.n {fn : Nat} {dir : Int} {m : Msg} {xs : List Int} {e : Int} (h : WriteC fn dir m (xs, e)) {n : Nat} (hn : xs.length = n) {cx : Array Value} {W : World} (hm : IsMsg W cx m) : Calls Try.prog fn #[.int .i64 dir, .agg cx] W fun en w' => ∃ A c, en = .returned (.tuple #[.slice A n c, .int .i64 e]) ∧ n ≤ c ∧ Kd.C (Kd.int .u8) w' A n xs ∧ Below W.heap.size W w' := by
  subst hn
  exact h cx W hm
theorem ParseC.n {fn : Nat} {dir code : Int} {l : List Int} {P : Msg × Int} (h : ParseC fn dir code l P) {n : Nat} (hn : l.length = n) {A : Option Addr} {c : Nat} {W : World} (hr : Kd.C (Kd.int .u8) W A n l) (hc : n ≤ c) : Calls Try.prog fn #[.int .i64 dir, .int .u8 code, .slice A n c] W fun en w' => ∃ cx, en = .returned (.tuple #[.agg cx, .int .i64 P.2]) ∧ IsMsg w' cx P.1 ∧ Below W.heap.size W w' := by
  subst hn
  exact h A c W hr hc
theorem same_n {xs ys : List Int} (hx : isBytes xs) (hy : isBytes ys) {n m : Nat} (hn : xs.length = n) (hm : ys.length = m) {A B : Option Addr} {c d : Nat} {W : World} (rl : Kd.C (Kd.int .u8) W A n xs) (zl : n ≤ c) (rm : Kd.C (Kd.int .u8) W B m ys) (zm : m ≤ d) :
    Calls Try.prog 18 #[.slice A n c, .slice B m d] W fun e w' => e = .returned (.bool (xs == ys)) ∧ Below W.heap.size W w' := by
  subst hn
  subst hm
  exact R01.same_c hx hy rl zl rm zm
theorem same_e {xs ys : List Int} (hx : isBytes xs) (he : ys = xs) {n m : Nat} (hn : xs.length = n) (hm : ys.length = m) {A B : Option Addr} {c d : Nat} {W : World} (rl : Kd.C (Kd.int .u8) W A n xs) (zl : n ≤ c) (rm : Kd.C (Kd.int .u8) W B m ys) (zm : m ≤ d) :
    Calls Try.prog 18 #[.slice A n c, .slice B m d] W fun e w' => e = .returned (.bool true) ∧ Below W.heap.size W w' := by
  have h := same_n hx (he ▸ hx) hn hm rl zl rm zm
  rw [he, beq_self_eq_true] at h
  exact h
theorem ParseC.ex {fn : Nat} {dir code : Int} {bs xs : List Int} {P : Msg × Int} (h : ParseC fn dir code xs P) (he : bs = xs) : ParseC fn dir code bs P := he ▸ h
theorem ev_rlit {P : Program} {ops : Array Oper} {rest : List Oper} {o : Oper} {a : Act} {w : World} {Q : Exit → Act → World → Prop} (q : IntKind) (xs : List Int) (e : TypeId) {N : Tmp} (hd : o.dst = some N) (hgd : o.guard = none)
    (hrun : (execOp a.eval o).run P w = .ok (.value (.slice (some ⟨w.heap.size, 0, none⟩) xs.length xs.length)) (w.alloc (.cells (xs.map (Value.int q)).toArray e))) (hl : xs.length ≤ 1000000)
    (h : ∀ v w1, Kd.R (Kd.int q) e w1 w.heap.size (fun _ => True) v xs → Below w.heap.size w w1 → wpList P ops Q rest (a.put o.dst v) w1) : wpList P ops Q (o :: rest) a w := by
  refine Kd.R_lit (Kd.int q) (w0 := w) w.heap.size e hgd hd (xs := xs) (inner := xs.map (Value.int q)) (ok := fun _ => True) (okp := fun _ => True) hrun ?_ (fun _ hk => hk) trivial (Below.refl _ _) (Nat.le_refl _) (by omega) (fun v w1 h1 h2 _ _ => h v w1 h1 h2)
  clear h hrun hl
  induction xs with
  | nil => exact Reps.none _ _
  | cons x xs ih => exact Reps.one (show Kd.M (Kd.int q) _ _ _ x [.int q x] from rfl) ih
theorem ev_app {P : Program} {ops : Array Oper} {rest : List Oper} {o : Oper} {a : Act} {W0 W : World} {Q : Exit → Act → World → Prop} (q : IntKind) (e : TypeId) (s x : Operand) (t : TypeId) (bytes : Nat) (hgd : o.guard = none)
    (ho : o.op = .call { callee := .builtin .append, args := #[s, x], argTypes := #[t, t] }) (ht : P.underlying t = some (.slice e)) (hinfo : (P.info? e).map (fun i => (i.zero, i.size, i.bytes)) = some (some (.int q 0), 1, bytes)) (hb0 : 0 < bytes) (hb8 : bytes ≤ 8)
    {v : Value} {xs ys : List Int} {A : Option Addr} {m c : Nat} (hs : a.eval s = v) (hx : a.eval x = .slice A m c) {ok : Nat → Prop} (HO : Kd.R (Kd.int q) e W W0.heap.size ok v xs) (HR : Kd.C (Kd.int q) W A m ys) (HB : Below W0.heap.size W0 W) (hl : xs.length + m ≤ 1000000)
    {zs : List Int} {n : Nat} (hz : xs ++ ys = zs) (hn : zs.length = n)
    (h : ∀ v1 A1 c1 w1, v1 = .slice A1 n c1 → Kd.R (Kd.int q) e w1 W0.heap.size (fun _ => True) v1 zs → Kd.C (Kd.int q) w1 A1 n zs → n ≤ c1 → Below W0.heap.size W0 w1 → wpList P ops Q rest (a.put o.dst (.slice A1 n c1)) w1) : wpList P ops Q (o :: rest) a W := by
  subst hz
  subst hn
  refine Kd.R_append_rows (Kd.int q) (w0 := W0) W0.heap.size hgd s x t e (.int q 0) bytes ho ht hinfo rfl (show 0 < 1 by decide) hb0 v xs ys A m c (fun _ => True) (fun _ => False) hs hx ⟨fun _ _ => trivial, HO.2.imp_ (fun _ _ hp => hp)⟩ HR (fun _ _ h => h) (fun _ h => h.elim) (fun _ _ => trivial) HB HB.size ?_ ?_
  · exact Nat.le_trans (Nat.mul_le_mul hl hb8) (by decide)
  · intro v1 w1 h1 h2 _ _
    obtain ⟨A1, c1, e1, e2, e3⟩ := Kd.R_reads h1
    rw [e1]
    exact h v1 A1 c1 w1 e1 h1 e3 e2 h2
theorem AwakeC.c {fn : Nat} (h : AwakeC fn) (W : World) : Calls Try.prog fn #[] W fun en w' => en = .returned (.bool true) ∧ Below W.heap.size W w' := h W
def writeR (m : Msg) (l : List Int) (P : Msg × Int) : List Int × Int := if P.2 = 0 ∧ sameB P.1 m = true then (l, 0) else ([], 1)
set_option maxHeartbeats 16000000 in
set_option maxRecDepth 100000 in
theorem write_err {dir : Int} {m : Msg} {l : List Int} {P : Msg × Int} (hl : LayC 34 dir m l) (hp : ParseC 12 dir m.code l P) {cx : Array Value} {w : World} (hm : IsMsg w cx m) (he : P.2 ≠ 0) :
    Calls Try.prog 16 #[.int .i64 dir, .agg cx] w fun en w' => ∃ A c, en = .returned (.tuple #[.slice A (([] : List Int)).length c, .int .i64 1]) ∧ (([] : List Int)).length ≤ c ∧ Kd.C (Kd.int .u8) w' A (([] : List Int)).length (([] : List Int)) ∧ Below w.heap.size w w' := by
  have HL := Aside0.mk hl
  have HPC := Aside0.mk hp
  have H := Aside0.mk (Hd.start w)
  have hsz := hm.size
  have hix := msg_info hsz
  have n0_ := Aside0.mk ((((H.out.on (below_alloc (Below.refl _ _) (Obj.cells cx 30)))).add (sta_blk _ _) (blk_new _ _)).add (sta_msg _ _) (hm.on (below_alloc (Below.refl _ _) _)))
  clear H
  have H := n0_
  clear n0_
  have e0 : (P.2 == 0) = false := beq_eq_false_iff_ne.2 he
  have e1 : (P.2 != 0) = true := by rw [bne, e0]; rfl
  clear hl hp he hm
  go_enter Try.func16, Try.ntmps16
  go_upto_region 2 with (first | ((with_reducible refine gate_dst (N := 10) rfl ?_); (try (refine gate_guard (by rfl) ?_; dsimp only)); refine ev_get (x := .tmp 3) rfl rfl rfl H.out.f.1.2 H.out.f.2 ?_) | (go_at_call 34; (with_reducible refine (LayC.c HL.out H.out.f.2).mono ?_); rintro en wb ⟨Ab, cb, rfl, hz_, hr_, hb_⟩; have n0_ := Aside0.mk ((H.out.on hb_).add (sta_C _ _ _ _) (hr_)); clear H; have H := n0_; clear n0_; have Zb := Aside0.mk hz_; clear hb_ hr_ hz_))
  have kc := bx_code H.out.f.1.1.2 H.out.f.1.2
  go_upto_region 3 with (first | (go_at_call 12; (with_reducible refine (ParseC.c HPC.out H.out.f.2 Zb.out).mono ?_); rintro en wx ⟨cx2, rfl, hm_, hb_⟩; have n0_ := Aside0.mk ((H.out.on hb_).add (sta_msg _ _) (hm_)); clear H; have H := n0_; clear n0_; clear hb_ hm_) | ((with_reducible refine gate_dst (N := 7) rfl ?_); refine ev_var (y := .tmp 18) rfl rfl rfl rfl rfl H.out.f.2 rfl rfl ?_; intro gx wv hg_ h1_ hb_; have n0_ := Aside0.mk ((H.out.on hb_).add (sta_blk _ _) (h1_)); clear H; have H := n0_; clear n0_; clear h1_ hb_ hg_))
  clear kc
  go_wp2
  go_ret2
  exact ⟨none, 0, rfl, Nat.le_refl _, Kd.C_nil _ _, H.out.b⟩
set_option maxHeartbeats 16000000 in
set_option maxRecDepth 100000 in
theorem write_not {dir : Int} {m : Msg} {l : List Int} {P : Msg × Int} (hl : LayC 34 dir m l) (hp : ParseC 12 dir m.code l P) {cx : Array Value} {w : World} (hm : IsMsg w cx m) (he : P.2 = 0) (hs : sameB P.1 m = false) :
    Calls Try.prog 16 #[.int .i64 dir, .agg cx] w fun en w' => ∃ A c, en = .returned (.tuple #[.slice A (([] : List Int)).length c, .int .i64 1]) ∧ (([] : List Int)).length ≤ c ∧ Kd.C (Kd.int .u8) w' A (([] : List Int)).length (([] : List Int)) ∧ Below w.heap.size w w' := by
  have HL := Aside0.mk hl
  have HPC := Aside0.mk hp
  have H := Aside0.mk (Hd.start w)
  have hsz := hm.size
  have hix := msg_info hsz
  have n0_ := Aside0.mk ((((H.out.on (below_alloc (Below.refl _ _) (Obj.cells cx 30)))).add (sta_blk _ _) (blk_new _ _)).add (sta_msg _ _) (hm.on (below_alloc (Below.refl _ _) _)))
  clear H
  have H := n0_
  clear n0_
  have e0 : (P.2 == 0) = true := beq_iff_eq.2 he
  have e1 : (P.2 != 0) = false := by rw [bne, e0]; rfl
  clear hl hp he hm
  go_enter Try.func16, Try.ntmps16
  go_upto_region 2 with (first | ((with_reducible refine gate_dst (N := 10) rfl ?_); (try (refine gate_guard (by rfl) ?_; dsimp only)); refine ev_get (x := .tmp 3) rfl rfl rfl H.out.f.1.2 H.out.f.2 ?_) | (go_at_call 34; (with_reducible refine (LayC.c HL.out H.out.f.2).mono ?_); rintro en wb ⟨Ab, cb, rfl, hz_, hr_, hb_⟩; have n0_ := Aside0.mk ((H.out.on hb_).add (sta_C _ _ _ _) (hr_)); clear H; have H := n0_; clear n0_; have Zb := Aside0.mk hz_; clear hb_ hr_ hz_))
  have kc := bx_code H.out.f.1.1.2 H.out.f.1.2
  go_upto_region 3 with (first | (go_at_call 12; (with_reducible refine (ParseC.c HPC.out H.out.f.2 Zb.out).mono ?_); rintro en wx ⟨cx2, rfl, hm_, hb_⟩; have n0_ := Aside0.mk ((H.out.on hb_).add (sta_msg _ _) (hm_)); clear H; have H := n0_; clear n0_; clear hb_ hm_) | ((with_reducible refine gate_dst (N := 7) rfl ?_); refine ev_var (y := .tmp 18) rfl rfl rfl rfl rfl H.out.f.2 rfl rfl ?_; intro gx wv hg_ h1_ hb_; have n0_ := Aside0.mk ((H.out.on hb_).add (sta_blk _ _) (h1_)); clear H; have H := n0_; clear n0_; clear h1_ hb_ hg_))
  clear kc
  go_wp2_with (first | ((with_reducible refine gate_dst (N := 23) rfl ?_); (try (refine gate_guard (by rfl) ?_; dsimp only)); refine ev_get (x := .tmp 7) rfl rfl rfl H.out.f.2 H.out.f.1.2 ?_) | ((with_reducible refine gate_dst (N := 24) rfl ?_); (try (refine gate_guard (by rfl) ?_; dsimp only)); refine ev_get (x := .tmp 3) rfl rfl rfl H.out.f.1.1.1.1.2 H.out.f.1.1.1.2 ?_) | (go_at_call 35; (with_reducible refine (same_msg H.out.f.1.2 H.out.f.1.1.1.2).mono ?_); rintro en ws ⟨rfl, hb_⟩; have n0_ := Aside0.mk (H.out.on hb_); clear H; have H := n0_; clear n0_; clear hb_))
  go_ret2
  exact ⟨none, 0, rfl, Nat.le_refl _, Kd.C_nil _ _, H.out.b⟩
set_option maxHeartbeats 16000000 in
set_option maxRecDepth 100000 in
theorem write_yes {dir : Int} {m : Msg} {l : List Int} {P : Msg × Int} (hl : LayC 34 dir m l) (hp : ParseC 12 dir m.code l P) {cx : Array Value} {w : World} (hm : IsMsg w cx m) (he : P.2 = 0) (hs : sameB P.1 m = true) :
    Calls Try.prog 16 #[.int .i64 dir, .agg cx] w fun en w' => ∃ A c, en = .returned (.tuple #[.slice A (l).length c, .int .i64 0]) ∧ (l).length ≤ c ∧ Kd.C (Kd.int .u8) w' A (l).length (l) ∧ Below w.heap.size w w' := by
  have HL := Aside0.mk hl
  have HPC := Aside0.mk hp
  have H := Aside0.mk (Hd.start w)
  have hsz := hm.size
  have hix := msg_info hsz
  have n0_ := Aside0.mk ((((H.out.on (below_alloc (Below.refl _ _) (Obj.cells cx 30)))).add (sta_blk _ _) (blk_new _ _)).add (sta_msg _ _) (hm.on (below_alloc (Below.refl _ _) _)))
  clear H
  have H := n0_
  clear n0_
  have e0 : (P.2 == 0) = true := beq_iff_eq.2 he
  have e1 : (P.2 != 0) = false := by rw [bne, e0]; rfl
  clear hl hp he hm
  go_enter Try.func16, Try.ntmps16
  go_upto_region 2 with (first | ((with_reducible refine gate_dst (N := 10) rfl ?_); (try (refine gate_guard (by rfl) ?_; dsimp only)); refine ev_get (x := .tmp 3) rfl rfl rfl H.out.f.1.2 H.out.f.2 ?_) | (go_at_call 34; (with_reducible refine (LayC.c HL.out H.out.f.2).mono ?_); rintro en wb ⟨Ab, cb, rfl, hz_, hr_, hb_⟩; have n0_ := Aside0.mk ((H.out.on hb_).add (sta_C _ _ _ _) (hr_)); clear H; have H := n0_; clear n0_; have Zb := Aside0.mk hz_; clear hb_ hr_ hz_))
  have kc := bx_code H.out.f.1.1.2 H.out.f.1.2
  go_upto_region 3 with (first | (go_at_call 12; (with_reducible refine (ParseC.c HPC.out H.out.f.2 Zb.out).mono ?_); rintro en wx ⟨cx2, rfl, hm_, hb_⟩; have n0_ := Aside0.mk ((H.out.on hb_).add (sta_msg _ _) (hm_)); clear H; have H := n0_; clear n0_; clear hb_ hm_) | ((with_reducible refine gate_dst (N := 7) rfl ?_); refine ev_var (y := .tmp 18) rfl rfl rfl rfl rfl H.out.f.2 rfl rfl ?_; intro gx wv hg_ h1_ hb_; have n0_ := Aside0.mk ((H.out.on hb_).add (sta_blk _ _) (h1_)); clear H; have H := n0_; clear n0_; clear h1_ hb_ hg_))
  clear kc
  go_wp2_with (first | ((with_reducible refine gate_dst (N := 23) rfl ?_); (try (refine gate_guard (by rfl) ?_; dsimp only)); refine ev_get (x := .tmp 7) rfl rfl rfl H.out.f.2 H.out.f.1.2 ?_) | ((with_reducible refine gate_dst (N := 24) rfl ?_); (try (refine gate_guard (by rfl) ?_; dsimp only)); refine ev_get (x := .tmp 3) rfl rfl rfl H.out.f.1.1.1.1.2 H.out.f.1.1.1.2 ?_) | (go_at_call 35; (with_reducible refine (same_msg H.out.f.1.2 H.out.f.1.1.1.2).mono ?_); rintro en ws ⟨rfl, hb_⟩; have n0_ := Aside0.mk (H.out.on hb_); clear H; have H := n0_; clear n0_; clear hb_))
  go_ret2
  exact ⟨Ab, cb, rfl, Zb.out, H.out.f.1.1.2, H.out.b⟩
set_option maxHeartbeats 16000000 in
set_option maxRecDepth 100000 in
theorem rwrite_err {dir : Int} {m : Msg} {l : List Int} {P : Msg × Int} (hl : LayC 36 dir m l) (hp : ParseC 13 dir m.code l P) {cx : Array Value} {w : World} (hm : IsMsg w cx m) (he : P.2 ≠ 0) :
    Calls Try.prog 17 #[.int .i64 dir, .agg cx] w fun en w' => ∃ A c, en = .returned (.tuple #[.slice A (([] : List Int)).length c, .int .i64 1]) ∧ (([] : List Int)).length ≤ c ∧ Kd.C (Kd.int .u8) w' A (([] : List Int)).length (([] : List Int)) ∧ Below w.heap.size w w' := by
  have HL := Aside0.mk hl
  have HPC := Aside0.mk hp
  have H := Aside0.mk (Hd.start w)
  have hsz := hm.size
  have hix := msg_info hsz
  have n0_ := Aside0.mk ((((H.out.on (below_alloc (Below.refl _ _) (Obj.cells cx 30)))).add (sta_blk _ _) (blk_new _ _)).add (sta_msg _ _) (hm.on (below_alloc (Below.refl _ _) _)))
  clear H
  have H := n0_
  clear n0_
  have e0 : (P.2 == 0) = false := beq_eq_false_iff_ne.2 he
  have e1 : (P.2 != 0) = true := by rw [bne, e0]; rfl
  clear hl hp he hm
  go_enter Try.func17, Try.ntmps17
  go_upto_region 2 with (first | ((with_reducible refine gate_dst (N := 11) rfl ?_); (try (refine gate_guard (by rfl) ?_; dsimp only)); refine ev_get (x := .tmp 3) rfl rfl rfl H.out.f.1.2 H.out.f.2 ?_) | (go_at_call 36; (with_reducible refine (LayC.c HL.out H.out.f.2).mono ?_); rintro en wb ⟨Ab, cb, rfl, hz_, hr_, hb_⟩; have n0_ := Aside0.mk ((H.out.on hb_).add (sta_C _ _ _ _) (hr_)); clear H; have H := n0_; clear n0_; have Zb := Aside0.mk hz_; clear hb_ hr_ hz_))
  have kc := bx_code H.out.f.1.1.2 H.out.f.1.2
  go_upto_region 3 with (first | (go_at_call 13; (with_reducible refine (ParseC.c HPC.out H.out.f.2 Zb.out).mono ?_); rintro en wx ⟨cx2, rfl, hm_, hb_⟩; have n0_ := Aside0.mk ((H.out.on hb_).add (sta_msg _ _) (hm_)); clear H; have H := n0_; clear n0_; clear hb_ hm_) | ((with_reducible refine gate_dst (N := 7) rfl ?_); refine ev_var (y := .tmp 19) rfl rfl rfl rfl rfl H.out.f.2 rfl rfl ?_; intro gx wv hg_ h1_ hb_; have n0_ := Aside0.mk ((H.out.on hb_).add (sta_blk _ _) (h1_)); clear H; have H := n0_; clear n0_; clear h1_ hb_ hg_))
  clear kc
  go_upto_region 4 with (first | ((with_reducible refine gate_dst (N := 21) rfl ?_); (try (refine gate_guard (by rfl) ?_; dsimp only)); refine ev_get (x := .tmp 7) rfl rfl rfl H.out.f.2 H.out.f.1.2 ?_) | ((with_reducible refine gate_dst (N := 22) rfl ?_); (try (refine gate_guard (by rfl) ?_; dsimp only)); refine ev_get (x := .tmp 3) rfl rfl rfl H.out.f.1.1.1.1.2 H.out.f.1.1.1.2 ?_) | (go_at_call 14; (with_reducible refine (refsame_msg H.out.f.1.2 H.out.f.1.1.1.2).mono ?_); rintro en ws ⟨rfl, hb_⟩; have n0_ := Aside0.mk (H.out.on hb_); clear H; have H := n0_; clear n0_; clear hb_))
  go_wp2
  go_ret2
  exact ⟨none, 0, rfl, Nat.le_refl _, Kd.C_nil _ _, H.out.b⟩
set_option maxHeartbeats 16000000 in
set_option maxRecDepth 100000 in
theorem rwrite_not {dir : Int} {m : Msg} {l : List Int} {P : Msg × Int} (hl : LayC 36 dir m l) (hp : ParseC 13 dir m.code l P) {cx : Array Value} {w : World} (hm : IsMsg w cx m) (he : P.2 = 0) (hs : sameB P.1 m = false) :
    Calls Try.prog 17 #[.int .i64 dir, .agg cx] w fun en w' => ∃ A c, en = .returned (.tuple #[.slice A (([] : List Int)).length c, .int .i64 1]) ∧ (([] : List Int)).length ≤ c ∧ Kd.C (Kd.int .u8) w' A (([] : List Int)).length (([] : List Int)) ∧ Below w.heap.size w w' := by
  have HL := Aside0.mk hl
  have HPC := Aside0.mk hp
  have H := Aside0.mk (Hd.start w)
  have hsz := hm.size
  have hix := msg_info hsz
  have n0_ := Aside0.mk ((((H.out.on (below_alloc (Below.refl _ _) (Obj.cells cx 30)))).add (sta_blk _ _) (blk_new _ _)).add (sta_msg _ _) (hm.on (below_alloc (Below.refl _ _) _)))
  clear H
  have H := n0_
  clear n0_
  have e0 : (P.2 == 0) = true := beq_iff_eq.2 he
  have e1 : (P.2 != 0) = false := by rw [bne, e0]; rfl
  clear hl hp he hm
  go_enter Try.func17, Try.ntmps17
  go_upto_region 2 with (first | ((with_reducible refine gate_dst (N := 11) rfl ?_); (try (refine gate_guard (by rfl) ?_; dsimp only)); refine ev_get (x := .tmp 3) rfl rfl rfl H.out.f.1.2 H.out.f.2 ?_) | (go_at_call 36; (with_reducible refine (LayC.c HL.out H.out.f.2).mono ?_); rintro en wb ⟨Ab, cb, rfl, hz_, hr_, hb_⟩; have n0_ := Aside0.mk ((H.out.on hb_).add (sta_C _ _ _ _) (hr_)); clear H; have H := n0_; clear n0_; have Zb := Aside0.mk hz_; clear hb_ hr_ hz_))
  have kc := bx_code H.out.f.1.1.2 H.out.f.1.2
  go_upto_region 3 with (first | (go_at_call 13; (with_reducible refine (ParseC.c HPC.out H.out.f.2 Zb.out).mono ?_); rintro en wx ⟨cx2, rfl, hm_, hb_⟩; have n0_ := Aside0.mk ((H.out.on hb_).add (sta_msg _ _) (hm_)); clear H; have H := n0_; clear n0_; clear hb_ hm_) | ((with_reducible refine gate_dst (N := 7) rfl ?_); refine ev_var (y := .tmp 19) rfl rfl rfl rfl rfl H.out.f.2 rfl rfl ?_; intro gx wv hg_ h1_ hb_; have n0_ := Aside0.mk ((H.out.on hb_).add (sta_blk _ _) (h1_)); clear H; have H := n0_; clear n0_; clear h1_ hb_ hg_))
  clear kc
  go_upto_region 4 with (first | ((with_reducible refine gate_dst (N := 21) rfl ?_); (try (refine gate_guard (by rfl) ?_; dsimp only)); refine ev_get (x := .tmp 7) rfl rfl rfl H.out.f.2 H.out.f.1.2 ?_) | ((with_reducible refine gate_dst (N := 22) rfl ?_); (try (refine gate_guard (by rfl) ?_; dsimp only)); refine ev_get (x := .tmp 3) rfl rfl rfl H.out.f.1.1.1.1.2 H.out.f.1.1.1.2 ?_) | (go_at_call 14; (with_reducible refine (refsame_msg H.out.f.1.2 H.out.f.1.1.1.2).mono ?_); rintro en ws ⟨rfl, hb_⟩; have n0_ := Aside0.mk (H.out.on hb_); clear H; have H := n0_; clear n0_; clear hb_))
  go_wp2
  go_ret2
  exact ⟨none, 0, rfl, Nat.le_refl _, Kd.C_nil _ _, H.out.b⟩
set_option maxHeartbeats 16000000 in
set_option maxRecDepth 100000 in
theorem rwrite_yes {dir : Int} {m : Msg} {l : List Int} {P : Msg × Int} (hl : LayC 36 dir m l) (hp : ParseC 13 dir m.code l P) {cx : Array Value} {w : World} (hm : IsMsg w cx m) (he : P.2 = 0) (hs : sameB P.1 m = true) :
    Calls Try.prog 17 #[.int .i64 dir, .agg cx] w fun en w' => ∃ A c, en = .returned (.tuple #[.slice A (l).length c, .int .i64 0]) ∧ (l).length ≤ c ∧ Kd.C (Kd.int .u8) w' A (l).length (l) ∧ Below w.heap.size w w' := by
  have HL := Aside0.mk hl
  have HPC := Aside0.mk hp
  have H := Aside0.mk (Hd.start w)
  have hsz := hm.size
  have hix := msg_info hsz
  have n0_ := Aside0.mk ((((H.out.on (below_alloc (Below.refl _ _) (Obj.cells cx 30)))).add (sta_blk _ _) (blk_new _ _)).add (sta_msg _ _) (hm.on (below_alloc (Below.refl _ _) _)))
  clear H
  have H := n0_
  clear n0_
  have e0 : (P.2 == 0) = true := beq_iff_eq.2 he
  have e1 : (P.2 != 0) = false := by rw [bne, e0]; rfl
  clear hl hp he hm
  go_enter Try.func17, Try.ntmps17
  go_upto_region 2 with (first | ((with_reducible refine gate_dst (N := 11) rfl ?_); (try (refine gate_guard (by rfl) ?_; dsimp only)); refine ev_get (x := .tmp 3) rfl rfl rfl H.out.f.1.2 H.out.f.2 ?_) | (go_at_call 36; (with_reducible refine (LayC.c HL.out H.out.f.2).mono ?_); rintro en wb ⟨Ab, cb, rfl, hz_, hr_, hb_⟩; have n0_ := Aside0.mk ((H.out.on hb_).add (sta_C _ _ _ _) (hr_)); clear H; have H := n0_; clear n0_; have Zb := Aside0.mk hz_; clear hb_ hr_ hz_))
  have kc := bx_code H.out.f.1.1.2 H.out.f.1.2
  go_upto_region 3 with (first | (go_at_call 13; (with_reducible refine (ParseC.c HPC.out H.out.f.2 Zb.out).mono ?_); rintro en wx ⟨cx2, rfl, hm_, hb_⟩; have n0_ := Aside0.mk ((H.out.on hb_).add (sta_msg _ _) (hm_)); clear H; have H := n0_; clear n0_; clear hb_ hm_) | ((with_reducible refine gate_dst (N := 7) rfl ?_); refine ev_var (y := .tmp 19) rfl rfl rfl rfl rfl H.out.f.2 rfl rfl ?_; intro gx wv hg_ h1_ hb_; have n0_ := Aside0.mk ((H.out.on hb_).add (sta_blk _ _) (h1_)); clear H; have H := n0_; clear n0_; clear h1_ hb_ hg_))
  clear kc
  go_upto_region 4 with (first | ((with_reducible refine gate_dst (N := 21) rfl ?_); (try (refine gate_guard (by rfl) ?_; dsimp only)); refine ev_get (x := .tmp 7) rfl rfl rfl H.out.f.2 H.out.f.1.2 ?_) | ((with_reducible refine gate_dst (N := 22) rfl ?_); (try (refine gate_guard (by rfl) ?_; dsimp only)); refine ev_get (x := .tmp 3) rfl rfl rfl H.out.f.1.1.1.1.2 H.out.f.1.1.1.2 ?_) | (go_at_call 14; (with_reducible refine (refsame_msg H.out.f.1.2 H.out.f.1.1.1.2).mono ?_); rintro en ws ⟨rfl, hb_⟩; have n0_ := Aside0.mk (H.out.on hb_); clear H; have H := n0_; clear n0_; clear hb_))
  go_wp2
  go_ret2
  exact ⟨Ab, cb, rfl, Zb.out, H.out.f.1.1.2, H.out.b⟩
theorem write_of {dir : Int} {m : Msg} {l : List Int} {P : Msg × Int} (hl : LayC 34 dir m l) (hp : ParseC 12 dir m.code l P) : WriteC 16 dir m (writeR m l P) := by
  intro cx W hm
  unfold writeR
  by_cases he : P.2 = 0
  · cases hs : sameB P.1 m with
    | false => rw [if_neg (fun h => by cases h.2)]; exact write_not hl hp hm he hs
    | true => rw [if_pos ⟨he, rfl⟩]; exact write_yes hl hp hm he hs
  · rw [if_neg (fun h => he h.1)]; exact write_err hl hp hm he
theorem rwrite_of {dir : Int} {m : Msg} {l : List Int} {P : Msg × Int} (hl : LayC 36 dir m l) (hp : ParseC 13 dir m.code l P) : WriteC 17 dir m (writeR m l P) := by
  intro cx W hm
  unfold writeR
  by_cases he : P.2 = 0
  · cases hs : sameB P.1 m with
    | false => rw [if_neg (fun h => by cases h.2)]; exact rwrite_not hl hp hm he hs
    | true => rw [if_pos ⟨he, rfl⟩]; exact rwrite_yes hl hp hm he hs
  · rw [if_neg (fun h => he h.1)]; exact rwrite_err hl hp hm he
end Go.Proofs.Ytimclbhlgblifaa.Com
end
section
namespace Go.Proofs.Ytimclbhlgblifaa.Cur
open Go.RowKit Go.Proofs.Ytimclbhlgblifaa.E Go.Proofs.YtimclbhlgblifaaW.PrintWords Go.Proofs.YtimclbhlgblifaaW.PrintLast Go.Proofs.YtimclbhlgblifaaW.PrintMore
def Row (lo hi : Nat) (w : World) (A : Option Addr) (xs : List Int) : Prop := ∀ W', Kept w W' (fun k => k < lo ∨ hi ≤ k) → Kd.C (Kd.int .u8) W' A xs.length xs
theorem Row.now {lo hi : Nat} {w : World} {A : Option Addr} {xs : List Int} (h : Row lo hi w A xs) : Kd.C (Kd.int .u8) w A xs.length xs := h w (Kept.refl _ _)
theorem Row.on {lo hi : Nat} {w w' : World} {A : Option Addr} {xs : List Int} (h : Row lo hi w A xs) (hk : Kept w w' (fun k => k < lo ∨ hi ≤ k)) : Row lo hi w' A xs := fun W' hk' => h W' (hk.then_ hk' (fun _ h2 => .inl h2))
theorem Row.nil (lo hi : Nat) (w : World) : Row lo hi w none [] := fun W' _ => Kd.C_nil _ W'
theorem Row.wide {lo hi lo' hi' : Nat} {w : World} {A : Option Addr} {xs : List Int} (h : Row lo hi w A xs) (h1 : lo' ≤ lo) (h2 : hi ≤ hi') : Row lo' hi' w A xs := fun W' hk => h W' (hk.mono fun k hk => by omega)
theorem row_of_R {w1 : World} {e : Nat} {ok : Nat → Prop} {A : Option Addr} {n c lo : Nat} {xs : List Int} (h : Kd.R (Kd.int .u8) e w1 lo ok (.slice A n c) xs) : n = xs.length ∧ xs.length ≤ c ∧ Row lo w1.heap.size w1 A xs := by
  have h2 := Kd.R_reads' h
  obtain ⟨rfl, h3, _⟩ := h2
  exact ⟨rfl, h3, Kd.C_kept_own (Kd.R_bound h) (fun k hk => by omega)⟩
structure Upd (g : Nat) (w w' : World) : Prop where
  os : w'.os = w.os
  tape : w'.tape = w.tape
  output : w'.output = w.output
  kept : Kept w w' (fun k => k = g)
theorem Upd.refl (g : Nat) (w : World) : Upd g w w := ⟨rfl, rfl, rfl, Kept.refl _ _⟩
theorem Upd.of_below {g : Nat} {w w' : World} (h : Below w.heap.size w w') : Upd g w w' := ⟨h.os, h.tape, h.output, Kept.of_below h _⟩
theorem Upd.trans {g : Nat} {a b c : World} (h : Upd g a b) (k : Upd g b c) : Upd g a c := ⟨k.os.trans h.os, k.tape.trans h.tape, k.output.trans h.output, h.kept.then_ k.kept (fun _ h2 => .inl h2)⟩
theorem Upd.set (w : World) (g i : Nat) (v : Value) : Upd g w (w.setCell ⟨g, i, none⟩ v) := ⟨rfl, rfl, rfl, (Kept.refl w (fun k => k = g)).setCell (p := ⟨g, i, none⟩) (.inl rfl) v⟩
theorem Upd.below {g B : Nat} {w w' : World} (h : Upd g w w') (hB : B ≤ g) (hs : B ≤ w.heap.size) : Below B w w' := ⟨h.os, h.tape, h.output, h.kept.1, fun k hk => h.kept.2 k (by omega) (by omega)⟩
def At (lo hi : Nat) (w : World) (g : Nat) (xs : List Int) (s : Bool) (e : Int) : Prop :=
  hi ≤ g ∧ ∃ A c, w.heap[g]? = some (.cells #[.slice A xs.length c, .bool s, .int .i64 e] 68 (0, 0)) ∧ xs.length ≤ c ∧ Row lo hi w A xs
theorem At.lt {lo hi : Nat} {w : World} {g : Nat} {xs : List Int} {s : Bool} {e : Int} (h : At lo hi w g xs s e) : g < w.heap.size := by
  obtain ⟨_, A, c, h1, _⟩ := h
  exact blk_lt h1
theorem At.on {lo hi : Nat} {w w' : World} {g : Nat} {xs : List Int} {s : Bool} {e : Int} {S : Nat → Prop} (h : At lo hi w g xs s e) (hk : Kept w w' S) (h1 : ∀ k, S k → k < lo ∨ hi ≤ k) (h2 : ¬ S g) : At lo hi w' g xs s e := by
  obtain ⟨h3, A, c, h4, h5, h6⟩ := h
  exact ⟨h3, A, c, blk_kept h4 hk h2, h5, h6.on (hk.mono h1)⟩
theorem At.below {lo hi : Nat} {w w' : World} {g : Nat} {xs : List Int} {s : Bool} {e : Int} (h : At lo hi w g xs s e) (hb : Below w.heap.size w w') : At lo hi w' g xs s e :=
  h.on (Kept.of_below hb (fun _ => False)) (fun _ h => h.elim) (fun h => h)
theorem cells_of {w : World} {g : Nat} {t : TypeId} {v0 v1 v2 : Value} (h : w.heap[g]? = some (.cells #[v0, v1, v2] t (0, 0))) : w.cell? ⟨g, 0, none⟩ = some v0 ∧ w.cell? ⟨g, 1, none⟩ = some v1 ∧ w.cell? ⟨g, 2, none⟩ = some v2 ∧ w.frozen? ⟨g, 0, none⟩ = false ∧ w.frozen? ⟨g, 1, none⟩ = false ∧ w.frozen? ⟨g, 2, none⟩ = false :=
  ⟨blk_cell h 0, blk_cell h 1, blk_cell h 2, blk_frozen h 0, blk_frozen h 1, blk_frozen h 2⟩
set_option maxHeartbeats 4000000 in
set_option maxRecDepth 100000 in
theorem clone_any (A : Option Addr) (c : Nat) (l : List Int) (w : World) (hr : Kd.C (Kd.int .u8) w A l.length l) (hc : l.length ≤ c) (hs : l.length ≤ 1000000) :
    Calls Try.prog 37 #[.slice A l.length c] w fun e w' => ∃ A' c', e = .returned (.slice A' l.length c') ∧ l.length ≤ c' ∧ Row w.heap.size w'.heap.size w' A' l ∧ Below w.heap.size w w' := by
  have HR := Aside0.mk hr
  clear hr
  have hu1 := Try.underlying22
  have hq := fun (w : World) (a : Option Addr) (n c : Nat) => Lib.run_eql_slice_nil (P := Try.prog) w 22 5 a n c 0 0 Try.underlying22
  cases A with
  | none =>
    have hl : l = [] := by
      cases l with
      | nil => rfl
      | cons x xs => obtain ⟨_, h, _⟩ := HR.out.2.2 (by simp); cases h
    subst hl
    go_enter Try.func37, Try.ntmps37
    go_wp2
    go_ret
    exact ⟨none, 0, rfl, Nat.le_refl _, Row.nil _ _ _, Below.refl _ _⟩
  | some a =>
    go_enter Try.func37, Try.ntmps37
    go_upto_region 3 with (fail)
    refine wp_region_lit ?_
    refine Kd.R_lit (Kd.int .u8) w.heap.size 5 rfl (N := 5) rfl (xs := ([] : List Int)) (inner := []) (ok := fun _ => True) (okp := fun _ => True) ?h1 ?h2 (fun _ h => h) trivial (Below.refl _ _) (Nat.le_refl _) (by simp) ?_
    case h1 => first | (go_simp; done) | (go_simp; rfl)
    case h2 => exact Reps.none _ _
    intro v1 w1 R1 B1 _ _
    refine Kd.event_run (v := .slice (some a) l.length c) rfl (by first | (go_simp; done) | (go_simp; rfl)) ?_
    simp only [Act.put, List.setIfInBounds_toArray, List.set_cons_zero, List.set_cons_succ]
    refine Kd.R_append_rows (Kd.int .u8) (Rr := (Kd.int .u8).K w1) w.heap.size rfl (.tmp 5) (.tmp 6) 22 5 (.int .u8 0) 1 rfl hu1 (by kernel_rfl) rfl (by decide) (by decide) v1 [] l (some a) l.length c (fun _ => True) (fun k => True ∧ some k ≠ v1.ownBlock) rfl rfl R1 (Kd.C_below HR.out B1) (fun _ _ h => h) (fun _ h => h) (fun _ _ => trivial) B1 B1.size (by simp; omega) ?_
    intro v2 w2 R2 B2 _ _
    obtain ⟨A2, c2, rfl, h2, h3⟩ := Kd.R_reads R2
    obtain ⟨_, h5, h6⟩ := row_of_R R2
    rw [List.nil_append] at h2 h5 h6
    have H2 := Aside0.mk h5
    have H6 := Aside0.mk h6
    have H7 := Aside0.mk B2
    clear h2 h5 h6 B2 h3 R2
    go_wp2
    go_ret
    exact ⟨A2, c2, rfl, H2.out, H6.out, H7.out⟩
set_option maxHeartbeats 4000000 in
set_option maxRecDepth 100000 in
theorem new_any (A : Option Addr) (c : Nat) (l : List Int) (w : World) (hr : Kd.C (Kd.int .u8) w A l.length l) (hc : l.length ≤ c) (hs : l.length ≤ 1000000) :
    Calls Try.prog 19 #[.slice A l.length c] w fun e w' => ∃ g, e = .returned (.pointer (some ⟨g, 0, none⟩)) ∧ w.heap.size ≤ g ∧ At w.heap.size g w' g l false 0 ∧ Below w.heap.size w w' ∧ w'.heap.size = g + 1 := by
  have HR := Aside0.mk hr
  clear hr
  have hu1 := Try.underlying68
  go_enter Try.func19, Try.ntmps19
  go_wp2_with (go_at_call 37; refine (clone_any _ _ _ _ HR.out hc hs).mono ?_; rintro e w1 ⟨A1, c1, rfl, h1, h2, h3⟩; have H1 := Aside0.mk h1; have H2 := Aside0.mk h2; have H3 := Aside0.mk h3; clear h1 h2 h3)
  go_ret
  refine ⟨w1.heap.size, rfl, H3.out.size, ⟨Nat.le_refl _, A1, c1, blk_new _ _, H1.out, H2.out.on (Kept.of_below (below_alloc (Below.refl _ _) _) _)⟩, below_alloc H3.out _, by simp⟩
set_option maxHeartbeats 4000000 in
set_option maxRecDepth 100000 in
theorem need_any (lo hi g : Nat) (xs : List Int) (s : Bool) (e : Int) (ok : Bool) (f : Int) (w : World) (h : At lo hi w g xs s e) :
    Calls Try.prog 21 #[.pointer (some ⟨g, 0, none⟩), .bool ok, .int .i64 f] w fun en w' => en = .returned (.tuple #[]) ∧ At lo hi w' g xs s (if e = 0 ∧ ok = false then f else e) ∧ Upd g w w' := by
  obtain ⟨h1, A, c, h2, h3, h4⟩ := h
  obtain ⟨k0, k1, k2, f0, f1, f2⟩ := cells_of h2
  have H2 := Aside0.mk h2
  have H4 := Aside0.mk h4
  clear h2 h4
  have hu1 := Try.underlying68
  by_cases he : e = 0
  · subst he
    cases ok with
    | false =>
      go_enter Try.func21, Try.ntmps21
      go_wp2
      refine bodyPost_end (results_none rfl _ _ _) rfl ⟨rfl, ⟨h1, A, c, ?_, h3, ?_⟩, Upd.set _ _ _ _⟩
      · exact blk_put H2.out 2 _ rfl
      · exact H4.out.on ((Upd.set w g 2 _).kept.mono (fun k hk => .inr (by omega)))
    | true =>
      go_enter Try.func21, Try.ntmps21
      go_wp2
      exact bodyPost_end (results_none rfl _ _ _) rfl ⟨rfl, ⟨h1, A, c, H2.out, h3, H4.out⟩, Upd.refl _ _⟩
  · have he2 : (e == 0) = false := beq_eq_false_iff_ne.2 he
    have he3 : (e != 0) = true := bne_iff_ne.2 he
    rw [if_neg (fun hh => he hh.1)]
    clear he
    go_enter Try.func21, Try.ntmps21
    go_wp2
    exact bodyPost_end (results_none rfl _ _ _) rfl ⟨rfl, ⟨h1, A, c, H2.out, h3, H4.out⟩, Upd.refl _ _⟩
theorem left_any (lo hi g : Nat) (xs : List Int) (s : Bool) (e : Int) (w : World) (h : At lo hi w g xs s e) :
    Calls Try.prog 22 #[.pointer (some ⟨g, 0, none⟩)] w fun en w' => en = .returned (.int .i64 xs.length) ∧ w' = w := by
  obtain ⟨h1, A, c, h2, h3, h4⟩ := h
  obtain ⟨k0, k1, k2, f0, f1, f2⟩ := cells_of h2
  clear h2 h4
  have hu1 := Try.underlying68
  go_enter Try.func22, Try.ntmps22
  go_wp2
  go_ret
  exact ⟨rfl, rfl⟩
theorem err_any (lo hi g : Nat) (xs : List Int) (s : Bool) (e : Int) (w : World) (h : At lo hi w g xs s e) :
    Calls Try.prog 26 #[.pointer (some ⟨g, 0, none⟩)] w fun en w' => en = .returned (.int .i64 e) ∧ w' = w := by
  obtain ⟨h1, A, c, h2, h3, h4⟩ := h
  obtain ⟨k0, k1, k2, f0, f1, f2⟩ := cells_of h2
  clear h2 h4
  have hu1 := Try.underlying68
  go_enter Try.func26, Try.ntmps26
  go_wp2
  go_ret
  exact ⟨rfl, rfl⟩
def okB (n : Int) (xs : List Int) (s : Bool) : Bool := !s && decide (0 ≤ n) && decide (n ≤ (xs.length : Int))
def fstE (e f : Int) : Int := if e = 0 then f else e
set_option maxHeartbeats 4000000 in
set_option maxRecDepth 100000 in
theorem bytes_short (lo hi g : Nat) (xs : List Int) (s : Bool) (e n : Int) (w : World) (h : At lo hi w g xs s e) (hn : s = true ∨ n < 0 ∨ (xs.length : Int) < n) :
    Calls Try.prog 23 #[.pointer (some ⟨g, 0, none⟩), .int .i64 n] w fun en w' => en = .returned (.slice none 0 0) ∧ At lo hi w' g [] true (fstE e 2) ∧ Upd g w w' := by
  have HA := Aside0.mk h
  obtain ⟨h1, A, c, h2, h3, h4⟩ := h
  obtain ⟨k0, k1, k2, f0, f1, f2⟩ := cells_of h2
  have H2 := Aside0.mk h2
  clear h2 h4
  have hu1 := Try.underlying68
  have HN : ∀ W, W = (w.setCell ⟨g, 0, none⟩ (.slice none 0 0)).setCell ⟨g, 1, none⟩ (.bool true) → At lo hi W g [] true e ∧ Upd g w W := by
    rintro W rfl
    refine ⟨⟨h1, none, 0, blk_put (blk_put H2.out 0 _ rfl) 1 _ rfl, Nat.le_refl _, Row.nil _ _ _⟩, (Upd.set _ _ _ _).trans (Upd.set _ _ _ _)⟩
  have HNN := Aside0.mk HN
  clear HN
  have fin : ∀ W, At lo hi W g [] true e → Calls Try.prog 21 #[.pointer (some ⟨g, 0, none⟩), .bool false, .int .i64 2] W fun en w' => en = .returned (.tuple #[]) ∧ At lo hi w' g [] true (fstE e 2) ∧ Upd g W w' := by
    intro W hW
    have := need_any lo hi g [] true e false 2 W hW
    simpa [fstE] using this
  have FIN := Aside0.mk fin
  clear fin
  cases s with
  | true =>
    go_enter Try.func23, Try.ntmps23
    go_wp2_with (go_at_call 21; obtain ⟨a1, a2⟩ := HNN.out _ rfl; refine (FIN.out _ a1).mono ?_; rintro en w1 ⟨rfl, b1, b2⟩; have R1 := Aside0.mk b1; have R2 := Aside0.mk (a2.trans b2); clear a1 a2 b1 b2)
    go_ret
    exact ⟨rfl, R1.out, R2.out⟩
  | false =>
    by_cases c1 : n < 0
    · go_enter Try.func23, Try.ntmps23
      go_wp2_with (go_at_call 21; obtain ⟨a1, a2⟩ := HNN.out _ rfl; refine (FIN.out _ a1).mono ?_; rintro en w1 ⟨rfl, b1, b2⟩; have R1 := Aside0.mk b1; have R2 := Aside0.mk (a2.trans b2); clear a1 a2 b1 b2)
      go_ret
      exact ⟨rfl, R1.out, R2.out⟩
    · have c2 : (xs.length : Int) < n := by rcases hn with h | h | h <;> first | cases h | exact absurd h c1 | exact h
      have c3 : decide (n > (xs.length : Int)) = true := decide_eq_true c2
      go_enter Try.func23, Try.ntmps23
      go_wp2_with (go_at_call 21; obtain ⟨a1, a2⟩ := HNN.out _ rfl; refine (FIN.out _ a1).mono ?_; rintro en w1 ⟨rfl, b1, b2⟩; have R1 := Aside0.mk b1; have R2 := Aside0.mk (a2.trans b2); clear a1 a2 b1 b2)
      go_ret
      exact ⟨rfl, R1.out, R2.out⟩
theorem Row.take {lo hi m : Nat} {w : World} {A : Option Addr} {xs : List Int} (h : Row lo hi w A xs) (hm : m ≤ xs.length) : Row lo hi w A (xs.take m) := fun W' hk => Kd.C_take (h W' hk) hm
theorem Row.drop {lo hi m c : Nat} {w : World} {A : Option Addr} {xs : List Int} (h : Row lo hi w A xs) (hm : m ≤ xs.length) (hc : xs.length ≤ c) : Row lo hi w (if c = m then A else A.map (·.add (m * 1))) (xs.drop m) := fun W' hk => Kd.C_drop (h W' hk) hm hc
theorem u8_info : ∃ i, Try.prog.info? 5 = some i ∧ i.size = 1 := by
  have h : (Try.prog.info? 5).map (·.size) = some 1 := by kernel_rfl
  obtain ⟨i, h1, h2⟩ := Option.map_eq_some_iff.1 h
  exact ⟨i, h1, h2⟩
set_option maxHeartbeats 4000000 in
set_option maxRecDepth 100000 in
theorem bytes_ok (lo hi g : Nat) (xs : List Int) (e : Int) (m : Nat) (w : World) (h : At lo hi w g xs false e) (hm : m ≤ xs.length) (hl : xs.length ≤ 1000000) :
    Calls Try.prog 23 #[.pointer (some ⟨g, 0, none⟩), .int .i64 m] w fun en w' => ∃ A' c', en = .returned (.slice A' (xs.take m).length c') ∧ (xs.take m).length ≤ c' ∧ Row w.heap.size w'.heap.size w' A' (xs.take m) ∧ At lo hi w' g (xs.drop m) false e ∧ Upd g w w' := by
  obtain ⟨h1, A, c, h2, h3, h4⟩ := h
  obtain ⟨k0, k1, k2, f0, f1, f2⟩ := cells_of h2
  have H2 := Aside0.mk h2
  have H4 := Aside0.mk h4
  clear h2 h4
  have hu1 := Try.underlying68
  obtain ⟨i, hi1, hi2⟩ := u8_info
  have cut1 := cut_to 22 5 .i64 Try.underlying22 hi1 A xs.length c (m : Int) (by omega) (by omega) h3
  have cut2 := cut_from 22 5 .i64 Try.underlying22 hi1 1 hi2 A xs.length c (m : Int) (by omega) (by omega)
  simp only [Int.toNat_natCast] at cut1 cut2
  obtain ⟨A2, hA2⟩ : ∃ A2, A2 = if c = m then A else A.map fun x => x.add (m * 1) := ⟨_, rfl⟩
  rw [← hA2] at cut2
  have HA2 := Aside0.mk hA2
  clear hi1 hA2
  have hlt : (xs.take m).length = m := by rw [List.length_take]; omega
  have c1 : decide ((m : Int) < 0) = false := decide_eq_false (by omega)
  have c2 : decide ((m : Int) > (xs.length : Int)) = false := decide_eq_false (by omega)
  have c3 : decide ((xs.length : Int) < (m : Int)) = false := decide_eq_false (by omega)
  have cl : Calls Try.prog 37 #[.slice A m c] w fun e w' => ∃ A' c', e = .returned (.slice A' m c') ∧ m ≤ c' ∧ Row w.heap.size w'.heap.size w' A' (xs.take m) ∧ Below w.heap.size w w' := by
    have := clone_any A c (xs.take m) w (Row.now (H4.out.take hm)) (by omega) (by omega)
    rw [hlt] at this
    exact this
  have CL := Aside0.mk cl
  clear cl
  rw [hlt]
  go_enter Try.func23, Try.ntmps23
  go_wp2_with (go_at_call 37; refine CL.out.mono ?_; rintro en w1 ⟨A', c', rfl, b1, b2, b3⟩; have q0 := (b3.cell (World.block_lt_of_cell? w _ k0)).trans k0; have z0 := (b3.frozen (World.block_lt_of_cell? w _ k0)).trans f0; have N1 := Aside0.mk b1; have N2 := Aside0.mk b2; have N3 := Aside0.mk b3; clear b1 b2 b3)
  go_ret
  have b4 := (N3.out.block _ (blk_lt H2.out)).trans H2.out
  have hgw := blk_lt H2.out
  have K := Upd.set w1 g 0 (.slice A2 (xs.length - m) (c - m))
  refine ⟨A', c', rfl, N1.out, (N2.out.on (K.kept.mono (fun k hk => .inl (by omega)))).wide (Nat.le_refl _) K.kept.1, ⟨h1, A2, c - m, ?_, ?_, ?_⟩, (Upd.of_below N3.out).trans K⟩
  · rw [List.length_drop]
    exact blk_put b4 0 _ rfl
  · rw [List.length_drop]; omega
  · have := ((H4.out.drop hm h3).on (Kept.of_below N3.out _)).on (K.kept.mono (fun k hk => .inr (by omega)))
    rw [← HA2.out] at this
    exact this
theorem at_row {lo hi : Nat} {w : World} {A : Option Addr} {xs : List Int} (h : Row lo hi w A xs) (i : Nat) (hi : i < xs.length) : ∃ ad, A = some ad ∧ w.cell? (ad.add i) = some (.int .u8 (xs.getD i 0)) := by
  obtain ⟨ad, e, h2⟩ := Kd.at_int h.now (i : Int) (by omega) (by omega)
  rw [Int.toNat_natCast] at h2
  refine ⟨ad, e, h2.trans ?_⟩
  simp [rd]
set_option maxHeartbeats 4000000 in
set_option maxRecDepth 100000 in
theorem byte_ok (lo hi g : Nat) (x : Int) (xs : List Int) (e : Int) (w : World) (h : At lo hi w g (x :: xs) false e) (hl : (x :: xs).length ≤ 1000000) :
    Calls Try.prog 20 #[.pointer (some ⟨g, 0, none⟩)] w fun en w' => en = .returned (.int .u8 x) ∧ At lo hi w' g xs false e ∧ Upd g w w' := by
  have HB := Aside0.mk (bytes_ok lo hi g (x :: xs) e 1 w h (by simp) hl)
  clear h
  go_enter Try.func20, Try.ntmps20
  go_wp2_with (go_at_call 23; refine HB.out.mono ?_; rintro en w1 ⟨A', c', rfl, b1, b2, b3, b4⟩; obtain ⟨ad, rfl, q0⟩ := at_row b2 0 (by simp); have N3 := Aside0.mk b3; have N4 := Aside0.mk b4; clear b1 b2 b3 b4 HB)
  have q1 : w1.cell? ad = some (.int .u8 x) := by have := q0; rw [Addr.add_zero'] at this; exact this
  clear q0
  go_loopw [8] (fun i wr => i = .int .i64 0 ∧ wr = w1) (fun i _ => 0)
  case atStart => exact ⟨rfl, rfl⟩
  case round =>
    obtain ⟨rfl, rfl⟩ := hrel
    go_wp2
    go_ret
    exact ⟨rfl, N3.out, N4.out⟩
set_option maxHeartbeats 4000000 in
set_option maxRecDepth 100000 in
theorem byte_short (lo hi g : Nat) (xs : List Int) (s : Bool) (e : Int) (w : World) (h : At lo hi w g xs s e) (hs : s = true ∨ xs = []) :
    Calls Try.prog 20 #[.pointer (some ⟨g, 0, none⟩)] w fun en w' => en = .returned (.int .u8 0) ∧ At lo hi w' g [] true (fstE e 2) ∧ Upd g w w' := by
  have HB := Aside0.mk (bytes_short lo hi g xs s e 1 w h (by rcases hs with h | rfl; exact .inl h; exact .inr (.inr (by simp))))
  clear h
  go_enter Try.func20, Try.ntmps20
  go_wp2_with (go_at_call 23; refine HB.out.mono ?_; rintro en w1 ⟨rfl, b3, b4⟩; have N3 := Aside0.mk b3; have N4 := Aside0.mk b4; clear b3 b4 HB)
  go_loopw [8] (fun i wr => i = .int .i64 0 ∧ wr = w1) (fun i _ => 0)
  case atStart => exact ⟨rfl, rfl⟩
  case round =>
    obtain ⟨rfl, rfl⟩ := hrel
    go_wp2
    go_ret
    exact ⟨rfl, N3.out, N4.out⟩
set_option maxHeartbeats 4000000 in
set_option maxRecDepth 100000 in
theorem end_any (lo hi g : Nat) (xs : List Int) (s : Bool) (e : Int) (w : World) (h : At lo hi w g xs s e) :
    Calls Try.prog 25 #[.pointer (some ⟨g, 0, none⟩)] w fun en w' => en = .returned (.tuple #[]) ∧ At lo hi w' g xs s (if xs = [] then e else fstE e 3) ∧ Upd g w w' := by
  have fin := need_any lo hi g xs s e (decide (xs = [])) 3 w h
  have hb : ((xs.length : Int) == 0) = decide (xs = []) := by cases xs <;> simp; omega
  have hb2 : (xs.length == 0) = decide (xs = []) := by cases xs <;> simp
  have e2 : (if e = 0 ∧ decide (xs = []) = false then 3 else e) = (if xs = [] then e else fstE e 3) := by
    unfold fstE
    by_cases hx : xs = [] <;> simp [hx]
  rw [e2] at fin
  clear e2
  generalize (if xs = [] then e else fstE e 3) = E at fin ⊢
  have FIN := Aside0.mk fin
  clear fin
  generalize decide (xs = []) = q at *
  obtain ⟨h1, A, c, h2, h3, h4⟩ := h
  obtain ⟨k0, k1, k2, f0, f1, f2⟩ := cells_of h2
  clear h2 h4
  have hu1 := Try.underlying68
  go_enter Try.func25, Try.ntmps25
  go_wp2_with (go_at_call 21; (try rw [hb]); refine FIN.out.mono ?_; rintro en w1 ⟨rfl, b1, b2⟩; have N1 := Aside0.mk b1; have N2 := Aside0.mk b2; clear b1 b2 FIN)
  exact bodyPost_end (results_none rfl _ _ _) rfl ⟨rfl, N1.out, N2.out⟩
end Go.Proofs.Ytimclbhlgblifaa.Cur
end
section
namespace Go.Proofs.Ytimclbhlgblifaa.RCur
open Go.RowKit Go.Proofs.Ytimclbhlgblifaa.P Go.Proofs.Ytimclbhlgblifaa.E Go.Proofs.Ytimclbhlgblifaa.Cur Go.Proofs.YtimclbhlgblifaaW.PrintWords Go.Proofs.YtimclbhlgblifaaW.PrintLast Go.Proofs.YtimclbhlgblifaaW.PrintMore
def RAt (hi : Nat) (w : World) (g : Nat) (xs : List Int) (n : Nat) (s : Bool) (e : Int) : Prop :=
  hi ≤ g ∧ n ≤ xs.length ∧ xs.length ≤ 1000000 ∧ ∃ A c, w.heap[g]? = some (.cells #[.slice A xs.length c, .int .i64 n, .bool s, .int .i64 e] 60 (0, 0)) ∧ xs.length ≤ c ∧ Row 0 hi w A xs
theorem RAt.lt {hi : Nat} {w : World} {g : Nat} {xs : List Int} {n : Nat} {s : Bool} {e : Int} (h : RAt hi w g xs n s e) : g < w.heap.size := by
  obtain ⟨_, _, _, A, c, h1, _⟩ := h
  exact blk_lt h1
theorem RAt.on {hi : Nat} {w w' : World} {g : Nat} {xs : List Int} {n : Nat} {s : Bool} {e : Int} {S : Nat → Prop} (h : RAt hi w g xs n s e) (hk : Kept w w' S) (h1 : ∀ k, S k → hi ≤ k) (h2 : ¬ S g) : RAt hi w' g xs n s e := by
  obtain ⟨h3, h7, h8, A, c, h4, h5, h6⟩ := h
  exact ⟨h3, h7, h8, A, c, blk_kept h4 hk h2, h5, h6.on (hk.mono fun k hk => .inr (h1 k hk))⟩
theorem RAt.below {hi : Nat} {w w' : World} {g : Nat} {xs : List Int} {n : Nat} {s : Bool} {e : Int} (h : RAt hi w g xs n s e) (hb : Below w.heap.size w w') : RAt hi w' g xs n s e :=
  h.on (Kept.of_below hb (fun _ => False)) (fun _ h => h.elim) (fun h => h)
theorem cells4 {w : World} {g : Nat} {t : TypeId} {v0 v1 v2 v3 : Value} (h : w.heap[g]? = some (.cells #[v0, v1, v2, v3] t (0, 0))) : (w.cell? ⟨g, 0, none⟩ = some v0 ∧ w.cell? ⟨g, 1, none⟩ = some v1 ∧ w.cell? ⟨g, 2, none⟩ = some v2 ∧ w.cell? ⟨g, 3, none⟩ = some v3) ∧ w.frozen? ⟨g, 0, none⟩ = false ∧ w.frozen? ⟨g, 1, none⟩ = false ∧ w.frozen? ⟨g, 2, none⟩ = false ∧ w.frozen? ⟨g, 3, none⟩ = false :=
  ⟨⟨blk_cell h 0, blk_cell h 1, blk_cell h 2, blk_cell h 3⟩, blk_frozen h 0, blk_frozen h 1, blk_frozen h 2, blk_frozen h 3⟩
def bm (n m : Nat) : Array Bool := ⟨(List.range n).map fun i => m.testBit i⟩
set_option maxHeartbeats 4000000 in
set_option maxRecDepth 100000 in
theorem need_set (hi g : Nat) (xs : List Int) (n : Nat) (s : Bool) (f : Int) (w : World) (h : RAt hi w g xs n s 0) :
    Calls Try.prog 28 #[.pointer (some ⟨g, 0, none⟩), .bool false, .int .i64 f] w fun en w' => en = .returned (.tuple #[]) ∧ RAt hi w' g xs n s f ∧ Upd g w w' := by
  obtain ⟨h1, hn, hx, A, c, h2, h3, h4⟩ := h
  obtain ⟨⟨k0, k1, k2, k3⟩, f0, f1, f2, f3⟩ := cells4 h2
  have H2 := Aside0.mk h2
  have H4 := Aside0.mk h4
  clear h2 h4
  have hu1 := Try.underlying60
  go_enter Try.func28, Try.ntmps28
  go_wp2
  first
  | exact bodyPost_end (results_none rfl _ _ _) rfl ⟨rfl, ⟨h1, hn, hx, A, c, blk_put H2.out 3 _ rfl, h3, H4.out.on ((Upd.set w g 3 _).kept.mono (fun k hk => .inr (by omega)))⟩, Upd.set _ _ _ _⟩
  | exact bodyPost_ret (results_none rfl _ _ _) rfl ⟨rfl, ⟨h1, hn, hx, A, c, blk_put H2.out 3 _ rfl, h3, H4.out.on ((Upd.set w g 3 _).kept.mono (fun k hk => .inr (by omega)))⟩, Upd.set _ _ _ _⟩
set_option maxHeartbeats 4000000 in
set_option maxRecDepth 100000 in
theorem need_met (hi g : Nat) (xs : List Int) (n : Nat) (s : Bool) (e : Int) (w : World) (h : RAt hi w g xs n s e) (f : Int) :
    Calls Try.prog 28 #[.pointer (some ⟨g, 0, none⟩), .bool true, .int .i64 f] w fun en w' => en = .returned (.tuple #[]) ∧ RAt hi w' g xs n s e ∧ Upd g w w' := by
  obtain ⟨h1, hn, hx, A, c, h2, h3, h4⟩ := h
  obtain ⟨⟨k0, k1, k2, k3⟩, f0, f1, f2, f3⟩ := cells4 h2
  have H2 := Aside0.mk h2
  have H4 := Aside0.mk h4
  clear h2 h4
  have hu1 := Try.underlying60
  go_enter Try.func28, Try.ntmps28
  go_wp2
  exact bodyPost_ret (results_none rfl _ _ _) rfl ⟨rfl, ⟨h1, hn, hx, A, c, H2.out, h3, H4.out⟩, Upd.refl _ _⟩
set_option maxHeartbeats 4000000 in
set_option maxRecDepth 100000 in
theorem need_keep (hi g : Nat) (xs : List Int) (n : Nat) (s : Bool) (e : Int) (w : World) (h : RAt hi w g xs n s e) (f : Int) (he : e ≠ 0) :
    Calls Try.prog 28 #[.pointer (some ⟨g, 0, none⟩), .bool false, .int .i64 f] w fun en w' => en = .returned (.tuple #[]) ∧ RAt hi w' g xs n s e ∧ Upd g w w' := by
  have e1 : (e == 0) = false := beq_eq_false_iff_ne.2 he
  have e2 : (e != 0) = true := bne_iff_ne.2 he
  clear he
  obtain ⟨h1, hn, hx, A, c, h2, h3, h4⟩ := h
  obtain ⟨⟨k0, k1, k2, k3⟩, f0, f1, f2, f3⟩ := cells4 h2
  have H2 := Aside0.mk h2
  have H4 := Aside0.mk h4
  clear h2 h4
  have hu1 := Try.underlying60
  go_enter Try.func28, Try.ntmps28
  go_wp2
  exact bodyPost_ret (results_none rfl _ _ _) rfl ⟨rfl, ⟨h1, hn, hx, A, c, H2.out, h3, H4.out⟩, Upd.refl _ _⟩
theorem need_any (hi g : Nat) (xs : List Int) (n : Nat) (s : Bool) (e : Int) (w : World) (h : RAt hi w g xs n s e) (f : Int) :
    Calls Try.prog 28 #[.pointer (some ⟨g, 0, none⟩), .bool false, .int .i64 f] w fun en w' => en = .returned (.tuple #[]) ∧ RAt hi w' g xs n s (fstE e f) ∧ Upd g w w' := by
  by_cases he : e = 0
  · subst he
    exact need_set hi g xs n s f w h
  · have := need_keep hi g xs n s e w h f he
    rw [show fstE e f = e from if_neg he]
    exact this
def rleft.T1 : Bool × List (List Nat × List Nat) := (true, [([], []), ([0], [0]), ([1], [1]), ([2], [2]), ([3], [3]), ([], []), ([5], [5]), ([6], [6]), ([7], [7]), ([4, 8], [4, 8]), ([9, 0, 1, 2, 3, 4, 5, 6, 7, 8, 9], [9])])
def rleft.B1 : List Nat := [0, 1, 3, 7, 15, 0, 32, 96, 224, 511, 1023]
theorem rleft.tab1 : rtab .any (opsOf Try.f29 1) = rleft.T1 := by kernel_rfl
theorem rleft.bits1 : waitsOk rleft.T1.2 rleft.B1 = true := by kernel_rfl
set_option maxHeartbeats 4000000 in
set_option maxRecDepth 100000 in
theorem left_any (hi g : Nat) (xs : List Int) (n : Nat) (s : Bool) (e : Int) (w : World) (h : RAt hi w g xs n s e) :
    Calls Try.prog 29 #[.pointer (some ⟨g, 0, none⟩)] w fun en w' => en = .returned (.int .i64 ((xs.length : Int) - n)) ∧ RAt hi w' g xs n s e ∧ Upd g w w' := by
  obtain ⟨h1, hn, hx, A, c, h2, h3, h4⟩ := h
  obtain ⟨⟨k0, k1, k2, k3⟩, f0, f1, f2, f3⟩ := cells4 h2
  have H2 := Aside0.mk h2
  have H4 := Aside0.mk h4
  clear h2 h4
  have hu1 := Try.underlying60
  have c1 : wrap64 ((xs.length : Int) - (n : Int)) = (xs.length : Int) - (n : Int) := wrap64_id (by omega) (by omega)
  go_enter Try.func29, Try.ntmps29
  go_wp2
  refine start_ (n := 11) (S := fun w' => w'.cell? ⟨g, 0, none⟩ = some (.slice A xs.length c) ∧ w'.cell? ⟨g, 1, none⟩ = some (.int .i64 n) ∧ w'.cell? ⟨g, 2, none⟩ = some (.bool s) ∧ Aside0 (w'.heap[g]? = some (.cells #[.slice A xs.length c, .int .i64 n, .bool s, .int .i64 e] 60 (0, 0))) ∧ Aside0 (Upd g w w')) (ds := []) (bm 11 0) (by as_aux_lemma => kernel_rfl) rfl (by as_aux_lemma => kernel_rfl) ⟨k0, k1, k2, (Aside0.mk H2.out), (Aside0.mk ⟨rfl, rfl, rfl, (Kept.refl _ _).drew⟩)⟩ (fun hHeld => ?_)
  refine with_tabW rleft.tab1 rleft.bits1 (fun HT_ HW_ => ?_)
  refine pure_ (i := 0) (N := some 3) (v := ?_) (a' := ?_) (bm 11 1) rfl rfl (any_of HT_.out (by as_aux_lemma => kernel_rfl)) (fun _ _ _ h => h) (Or.inl ⟨by rfl, ?_⟩) ?_ ?_
  rotate_left
  · intro w'
    go_simp
    with_reducible rfl
  rotate_left
  · simp only [Act.put, List.setIfInBounds_toArray, List.set_cons_zero, List.set_cons_succ, i64_w, i32_w]
    rfl
  refine pure_ (i := 1) (N := some 4) (v := ?_) (a' := ?_) (bm 11 3) rfl rfl (any_of HT_.out (by as_aux_lemma => kernel_rfl)) (fun _ _ _ h => h) (Or.inl ⟨by rfl, ?_⟩) ?_ ?_
  rotate_left
  · intro w'
    go_simp
    with_reducible rfl
  rotate_left
  · simp only [Act.put, List.setIfInBounds_toArray, List.set_cons_zero, List.set_cons_succ, i64_w, i32_w]
    rfl
  refine pure_ (i := 2) (N := some 5) (v := ?_) (a' := ?_) (bm 11 7) rfl rfl (any_of HT_.out (by as_aux_lemma => kernel_rfl)) (fun _ _ _ h => h) (Or.inl ⟨by rfl, ?_⟩) ?_ ?_
  rotate_left
  · intro w'
    go_simp
    with_reducible rfl
  rotate_left
  · simp only [Act.put, List.setIfInBounds_toArray, List.set_cons_zero, List.set_cons_succ, i64_w, i32_w]
    rfl
  refine pure_ (i := 5) (N := some 8) (v := ?_) (a' := ?_) (bm 11 39) rfl rfl (any_of HT_.out (by as_aux_lemma => kernel_rfl)) (fun _ _ _ h => h) (Or.inl ⟨by rfl, ?_⟩) ?_ ?_
  rotate_left
  · intro w'
    go_simp
    with_reducible rfl
  rotate_left
  · simp only [Act.put, List.setIfInBounds_toArray, List.set_cons_zero, List.set_cons_succ, i64_w, i32_w]
    rfl
  refine pure_ (i := 6) (N := some 9) (v := ?_) (a' := ?_) (bm 11 103) rfl rfl (any_of HT_.out (by as_aux_lemma => kernel_rfl)) (fun _ _ _ h => h) (Or.inl ⟨by rfl, ?_⟩) ?_ ?_
  rotate_left
  · intro w'
    go_simp
    with_reducible rfl
  rotate_left
  · simp only [Act.put, List.setIfInBounds_toArray, List.set_cons_zero, List.set_cons_succ, i64_w, i32_w]
    rfl
  refine pure_ (i := 7) (N := some 10) (v := ?_) (a' := ?_) (bm 11 231) rfl rfl (any_of HT_.out (by as_aux_lemma => kernel_rfl)) (fun _ _ _ h => h) (Or.inl ⟨by rfl, ?_⟩) ?_ ?_
  rotate_left
  · intro w'
    go_simp
    with_reducible rfl
  rotate_left
  · simp only [Act.put, List.setIfInBounds_toArray, List.set_cons_zero, List.set_cons_succ, i64_w, i32_w]
    rfl
  refine take_ (i := 3) (N := some 6) (v := ?_) (a' := ?_) (bm 11 239) rfl rfl (take_ofW HT_.out HW_.out (by as_aux_lemma => kernel_rfl)) (fun _ _ _ h => h) (Or.inl ⟨by rfl, ?_⟩) hHeld ?_ ?_
  rotate_left
  · rintro w' ⟨s0, s1, s2, s3, s4⟩
    go_simp
    with_reducible rfl
  rotate_left
  · simp only [Act.put, List.setIfInBounds_toArray, List.set_cons_zero, List.set_cons_succ, i64_w, i32_w]
    rfl
  refine pure_ (i := 4) (N := some 7) (v := ?_) (a' := ?_) (bm 11 255) rfl rfl (any_of HT_.out (by as_aux_lemma => kernel_rfl)) (fun _ _ _ h => h) (Or.inl ⟨by rfl, ?_⟩) ?_ ?_
  rotate_left
  · intro w'
    go_simp
    with_reducible rfl
  rotate_left
  · simp only [Act.put, List.setIfInBounds_toArray, List.set_cons_zero, List.set_cons_succ, i64_w, i32_w]
    rfl
  refine take_ (i := 8) (N := some 11) (v := ?_) (a' := ?_) (bm 11 511) rfl rfl (take_ofW HT_.out HW_.out (by as_aux_lemma => kernel_rfl)) (fun _ _ _ h => h) (Or.inl ⟨by rfl, ?_⟩) hHeld ?_ ?_
  rotate_left
  · rintro w' ⟨s0, s1, s2, s3, s4⟩
    go_simp
    with_reducible rfl
  rotate_left
  · simp only [Act.put, List.setIfInBounds_toArray, List.set_cons_zero, List.set_cons_succ, i64_w, i32_w]
    rfl
  refine pure_ (i := 9) (N := some 12) (v := ?_) (a' := ?_) (bm 11 1023) rfl rfl (any_of HT_.out (by as_aux_lemma => kernel_rfl)) (fun _ _ _ h => h) (Or.inl ⟨by rfl, ?_⟩) ?_ ?_
  rotate_left
  · intro w'
    go_simp
    with_reducible rfl
  rotate_left
  · simp only [Act.put, List.setIfInBounds_toArray, List.set_cons_zero, List.set_cons_succ, i64_w, i32_w]
    rfl
  refine pure_ (i := 10) (N := some 2) (v := ?_) (a' := ?_) (bm 11 2047) rfl rfl (any_of HT_.out (by as_aux_lemma => kernel_rfl)) (fun _ _ _ h => h) (Or.inl ⟨by rfl, ?_⟩) ?_ ?_
  rotate_left
  · intro w'
    go_simp
    with_reducible rfl
  rotate_left
  · simp only [Act.put, List.setIfInBounds_toArray, List.set_cons_zero, List.set_cons_succ, i64_w, i32_w]
    rfl
  refine done_ (done_of HT_.out (by as_aux_lemma => kernel_rfl)) ?_
  go_wp2
  go_ret
  exact ⟨rfl, ⟨h1, hn, hx, A, c, hHeld.2.2.2.1.out, h3, H4.out.on (hHeld.2.2.2.2.out.kept.mono (fun k hk => .inr (by omega)))⟩, hHeld.2.2.2.2.out⟩
def rbytes.T1 : Bool × List (List Nat × List Nat) := (true, [([], []), ([0], [0]), ([1], [1]), ([2], [2]), ([3], [3]), ([4], [4]), ([5, 4], [4, 5]), ([4, 6], [4, 6]), ([7, 4], [7]), ([8], [8]), ([8], [8]), ([10, 8], [8, 10]), ([11, 8], [8, 11]), ([12, 8], [8, 12]), ([13, 8], [8, 13]), ([8], [8]), ([15, 8], [8, 15]), ([16, 8], [8, 16]), ([17, 8], [8, 17]), ([14, 18, 8], [8, 14, 18]), ([9, 19, 8], [8, 9, 19]), ([8, 20], [8, 20])])
def rbytes.B1 : List Nat := [0, 1, 3, 7, 15, 31, 63, 127, 255, 511, 511, 1535, 3583, 7679, 15871, 511, 33279, 98815, 229887, 523775, 1048575, 2097151]
theorem rbytes.tab1 : rtab .any (opsOf Try.f30 1) = rbytes.T1 := by kernel_rfl
theorem rbytes.bits1 : waitsOk rbytes.T1.2 rbytes.B1 = true := by kernel_rfl
def rbytes.T7 : Bool × List (List Nat × List Nat) := (true, [([], []), ([0], [0]), ([1], [1]), ([2], [2]), ([], []), ([4], [4]), ([5], [5]), ([6], [6]), ([], []), ([7, 8], [7, 8]), ([], []), ([10], [10]), ([11], [11]), ([12], [12]), ([3, 9, 13], [3, 9, 13]), ([14, 0, 1, 2, 3, 4, 5, 6, 7, 8, 9, 10, 11, 12, 13, 14], [14])])
def rbytes.B7 : List Nat := [0, 1, 3, 7, 0, 16, 48, 112, 0, 496, 0, 1024, 3072, 7168, 16383, 32767]
theorem rbytes.tab7 : rtab .any (opsOf Try.f30 7) = rbytes.T7 := by kernel_rfl
theorem rbytes.bits7 : waitsOk rbytes.T7.2 rbytes.B7 = true := by kernel_rfl
set_option maxHeartbeats 4000000 in
set_option maxRecDepth 100000 in
theorem bytes_s (hi g : Nat) (xs : List Int) (n : Nat) (e m : Int) (w : World) (h : RAt hi w g xs n true e)  :
    Calls Try.prog 30 #[.pointer (some ⟨g, 0, none⟩), .int .i64 m] w fun en w' => en = .returned (.slice none 0 0) ∧ RAt hi w' g xs xs.length true (fstE e 2) ∧ Upd g w w' := by
  obtain ⟨h1, hn, hx, A, c, h2, h3, h4⟩ := h
  obtain ⟨⟨k0, k1, k2, k3⟩, f0, f1, f2, f3⟩ := cells4 h2
  have H2 := Aside0.mk h2
  have H4 := Aside0.mk h4
  clear h2 h4
  have hu1 := Try.underlying60
  have c1 : wrap64 ((xs.length : Int) - (n : Int)) = (xs.length : Int) - (n : Int) := wrap64_id (by omega) (by omega)
  have FIN := Aside0.mk (fun (W : World) (hW : RAt hi W g xs xs.length true e) => need_any hi g xs xs.length true e W hW 2)
  go_enter Try.func30, Try.ntmps30
  go_wp2
  refine start_ (n := 22) (S := fun w' => w'.cell? ⟨g, 0, none⟩ = some (.slice A xs.length c) ∧ w'.cell? ⟨g, 1, none⟩ = some (.int .i64 n) ∧ w'.cell? ⟨g, 2, none⟩ = some (.bool true) ∧ Aside0 (w'.heap[g]? = some (.cells #[.slice A xs.length c, .int .i64 n, .bool true, .int .i64 e] 60 (0, 0))) ∧ Aside0 (Upd g w w')) (ds := []) (bm 22 0) (by as_aux_lemma => kernel_rfl) rfl (by as_aux_lemma => kernel_rfl) ⟨k0, k1, k2, (Aside0.mk H2.out), (Aside0.mk ⟨rfl, rfl, rfl, (Kept.refl _ _).drew⟩)⟩ (fun hHeld => ?_)
  refine with_tabW rbytes.tab1 rbytes.bits1 (fun HT_ HW_ => ?_)
  refine pure_ (i := 0) (N := some 5) (v := ?_) (a' := ?_) (bm 22 1) rfl rfl (any_of HT_.out (by as_aux_lemma => kernel_rfl)) (fun _ _ _ h => h) (Or.inl ⟨by rfl, ?_⟩) ?_ ?_
  rotate_left
  · intro w'
    go_simp
    with_reducible rfl
  rotate_left
  · simp only [Act.put, List.setIfInBounds_toArray, List.set_cons_zero, List.set_cons_succ, i64_w, i32_w]
    rfl
  refine pure_ (i := 1) (N := some 6) (v := ?_) (a' := ?_) (bm 22 3) rfl rfl (any_of HT_.out (by as_aux_lemma => kernel_rfl)) (fun _ _ _ h => h) (Or.inl ⟨by rfl, ?_⟩) ?_ ?_
  rotate_left
  · intro w'
    go_simp
    with_reducible rfl
  rotate_left
  · simp only [Act.put, List.setIfInBounds_toArray, List.set_cons_zero, List.set_cons_succ, i64_w, i32_w]
    rfl
  refine pure_ (i := 2) (N := some 7) (v := ?_) (a' := ?_) (bm 22 7) rfl rfl (any_of HT_.out (by as_aux_lemma => kernel_rfl)) (fun _ _ _ h => h) (Or.inl ⟨by rfl, ?_⟩) ?_ ?_
  rotate_left
  · intro w'
    go_simp
    with_reducible rfl
  rotate_left
  · simp only [Act.put, List.setIfInBounds_toArray, List.set_cons_zero, List.set_cons_succ, i64_w, i32_w]
    rfl
  refine take_ (i := 3) (N := some 8) (v := ?_) (a' := ?_) (bm 22 15) rfl rfl (take_ofW HT_.out HW_.out (by as_aux_lemma => kernel_rfl)) (fun _ _ _ h => h) (Or.inl ⟨by rfl, ?_⟩) hHeld ?_ ?_
  rotate_left
  · rintro w' ⟨s0, s1, s2, s3, s4⟩
    go_simp
    with_reducible rfl
  rotate_left
  · simp only [Act.put, List.setIfInBounds_toArray, List.set_cons_zero, List.set_cons_succ, i64_w, i32_w]
    rfl
  refine pure_ (i := 4) (N := some 9) (v := ?_) (a' := ?_) (bm 22 31) rfl rfl (any_of HT_.out (by as_aux_lemma => kernel_rfl)) (fun _ _ _ h => h) (Or.inl ⟨by rfl, ?_⟩) ?_ ?_
  rotate_left
  · intro w'
    go_simp
    with_reducible rfl
  rotate_left
  · simp only [Act.put, List.setIfInBounds_toArray, List.set_cons_zero, List.set_cons_succ, i64_w, i32_w]
    rfl
  refine pure_ (i := 5) (N := some 10) (v := undef) (a' := ?_) (bm 22 63) rfl rfl (any_of HT_.out (by as_aux_lemma => kernel_rfl)) (fun _ _ _ h => h) (Or.inr ⟨by rfl, rfl⟩) ?_ ?_
  rotate_left
  · simp only [Act.put, List.setIfInBounds_toArray, List.set_cons_zero, List.set_cons_succ, i64_w, i32_w]
    rfl
  refine pure_ (i := 6) (N := some 11) (v := undef) (a' := ?_) (bm 22 127) rfl rfl (any_of HT_.out (by as_aux_lemma => kernel_rfl)) (fun _ _ _ h => h) (Or.inr ⟨by rfl, rfl⟩) ?_ ?_
  rotate_left
  · simp only [Act.put, List.setIfInBounds_toArray, List.set_cons_zero, List.set_cons_succ, i64_w, i32_w]
    rfl
  refine pure_ (i := 7) (N := some 12) (v := ?_) (a' := ?_) (bm 22 255) rfl rfl (any_of HT_.out (by as_aux_lemma => kernel_rfl)) (fun _ _ _ h => h) (Or.inl ⟨by rfl, ?_⟩) ?_ ?_
  rotate_left
  · intro w'
    go_simp
    with_reducible rfl
  rotate_left
  · simp only [Act.put, List.setIfInBounds_toArray, List.set_cons_zero, List.set_cons_succ, i64_w, i32_w]
    rfl
  refine pure_ (i := 8) (N := some 13) (v := ?_) (a' := ?_) (bm 22 511) rfl rfl (any_of HT_.out (by as_aux_lemma => kernel_rfl)) (fun _ _ _ h => h) (Or.inl ⟨by rfl, ?_⟩) ?_ ?_
  rotate_left
  · intro w'
    go_simp
    with_reducible rfl
  rotate_left
  · simp only [Act.put, List.setIfInBounds_toArray, List.set_cons_zero, List.set_cons_succ, i64_w, i32_w]
    rfl
  refine pure_ (i := 9) (N := some 14) (v := undef) (a' := ?_) (bm 22 1023) rfl rfl (any_of HT_.out (by as_aux_lemma => kernel_rfl)) (fun _ _ _ h => h) (Or.inr ⟨by rfl, rfl⟩) ?_ ?_
  rotate_left
  · simp only [Act.put, List.setIfInBounds_toArray, List.set_cons_zero, List.set_cons_succ, i64_w, i32_w]
    rfl
  refine pure_ (i := 10) (N := some 15) (v := undef) (a' := ?_) (bm 22 2047) rfl rfl (any_of HT_.out (by as_aux_lemma => kernel_rfl)) (fun _ _ _ h => h) (Or.inr ⟨by rfl, rfl⟩) ?_ ?_
  rotate_left
  · simp only [Act.put, List.setIfInBounds_toArray, List.set_cons_zero, List.set_cons_succ, i64_w, i32_w]
    rfl
  refine pure_ (i := 11) (N := some 16) (v := undef) (a' := ?_) (bm 22 4095) rfl rfl (any_of HT_.out (by as_aux_lemma => kernel_rfl)) (fun _ _ _ h => h) (Or.inr ⟨by rfl, rfl⟩) ?_ ?_
  rotate_left
  · simp only [Act.put, List.setIfInBounds_toArray, List.set_cons_zero, List.set_cons_succ, i64_w, i32_w]
    rfl
  refine pure_ (i := 12) (N := some 17) (v := undef) (a' := ?_) (bm 22 8191) rfl rfl (any_of HT_.out (by as_aux_lemma => kernel_rfl)) (fun _ _ _ h => h) (Or.inr ⟨by rfl, rfl⟩) ?_ ?_
  rotate_left
  · simp only [Act.put, List.setIfInBounds_toArray, List.set_cons_zero, List.set_cons_succ, i64_w, i32_w]
    rfl
  refine pure_ (i := 13) (N := some 18) (v := undef) (a' := ?_) (bm 22 16383) rfl rfl (any_of HT_.out (by as_aux_lemma => kernel_rfl)) (fun _ _ _ h => h) (Or.inr ⟨by rfl, rfl⟩) ?_ ?_
  rotate_left
  · simp only [Act.put, List.setIfInBounds_toArray, List.set_cons_zero, List.set_cons_succ, i64_w, i32_w]
    rfl
  refine pure_ (i := 14) (N := some 19) (v := undef) (a' := ?_) (bm 22 32767) rfl rfl (any_of HT_.out (by as_aux_lemma => kernel_rfl)) (fun _ _ _ h => h) (Or.inr ⟨by rfl, rfl⟩) ?_ ?_
  rotate_left
  · simp only [Act.put, List.setIfInBounds_toArray, List.set_cons_zero, List.set_cons_succ, i64_w, i32_w]
    rfl
  refine pure_ (i := 15) (N := some 20) (v := undef) (a' := ?_) (bm 22 65535) rfl rfl (any_of HT_.out (by as_aux_lemma => kernel_rfl)) (fun _ _ _ h => h) (Or.inr ⟨by rfl, rfl⟩) ?_ ?_
  rotate_left
  · simp only [Act.put, List.setIfInBounds_toArray, List.set_cons_zero, List.set_cons_succ, i64_w, i32_w]
    rfl
  refine pure_ (i := 16) (N := some 21) (v := undef) (a' := ?_) (bm 22 131071) rfl rfl (any_of HT_.out (by as_aux_lemma => kernel_rfl)) (fun _ _ _ h => h) (Or.inr ⟨by rfl, rfl⟩) ?_ ?_
  rotate_left
  · simp only [Act.put, List.setIfInBounds_toArray, List.set_cons_zero, List.set_cons_succ, i64_w, i32_w]
    rfl
  refine pure_ (i := 17) (N := some 22) (v := undef) (a' := ?_) (bm 22 262143) rfl rfl (any_of HT_.out (by as_aux_lemma => kernel_rfl)) (fun _ _ _ h => h) (Or.inr ⟨by rfl, rfl⟩) ?_ ?_
  rotate_left
  · simp only [Act.put, List.setIfInBounds_toArray, List.set_cons_zero, List.set_cons_succ, i64_w, i32_w]
    rfl
  refine pure_ (i := 18) (N := some 23) (v := undef) (a' := ?_) (bm 22 524287) rfl rfl (any_of HT_.out (by as_aux_lemma => kernel_rfl)) (fun _ _ _ h => h) (Or.inr ⟨by rfl, rfl⟩) ?_ ?_
  rotate_left
  · simp only [Act.put, List.setIfInBounds_toArray, List.set_cons_zero, List.set_cons_succ, i64_w, i32_w]
    rfl
  refine pure_ (i := 19) (N := some 24) (v := undef) (a' := ?_) (bm 22 1048575) rfl rfl (any_of HT_.out (by as_aux_lemma => kernel_rfl)) (fun _ _ _ h => h) (Or.inr ⟨by rfl, rfl⟩) ?_ ?_
  rotate_left
  · simp only [Act.put, List.setIfInBounds_toArray, List.set_cons_zero, List.set_cons_succ, i64_w, i32_w]
    rfl
  refine pure_ (i := 20) (N := some 25) (v := undef) (a' := ?_) (bm 22 2097151) rfl rfl (any_of HT_.out (by as_aux_lemma => kernel_rfl)) (fun _ _ _ h => h) (Or.inr ⟨by rfl, rfl⟩) ?_ ?_
  rotate_left
  · simp only [Act.put, List.setIfInBounds_toArray, List.set_cons_zero, List.set_cons_succ, i64_w, i32_w]
    rfl
  refine pure_ (i := 21) (N := some 26) (v := ?_) (a' := ?_) (bm 22 4194303) rfl rfl (any_of HT_.out (by as_aux_lemma => kernel_rfl)) (fun _ _ _ h => h) (Or.inl ⟨by rfl, ?_⟩) ?_ ?_
  rotate_left
  · intro w'
    go_simp
    with_reducible rfl
  rotate_left
  · simp only [Act.put, List.setIfInBounds_toArray, List.set_cons_zero, List.set_cons_succ, i64_w, i32_w]
    rfl
  refine done_ (done_of HT_.out (by as_aux_lemma => kernel_rfl)) ?_
  have hb := hHeld.2.2.2.1.out
  have hU := hHeld.2.2.2.2.out
  obtain ⟨⟨q0, q1, q2, q3⟩, p0, p1, p2, p3⟩ := cells4 hb
  clear hHeld
  generalize World.drew w = wd at *
  have HS := Aside0.mk (fun (W : World) (hW : W = (wd.setCell ⟨g, 2, none⟩ (.bool true)).setCell ⟨g, 1, none⟩ (.int .i64 xs.length)) => (by
    subst hW
    exact ⟨h1, Nat.le_refl _, hx, A, c, blk_put (blk_put hb 2 _ rfl) 1 _ rfl, h3, H4.out.on ((hU.trans ((Upd.set _ _ _ _).trans (Upd.set _ _ _ _))).kept.mono (fun k hk => .inr (by omega)))⟩ : RAt hi W g xs xs.length true e))
  have HU := Aside0.mk (hU.trans ((Upd.set wd g 2 (.bool true)).trans (Upd.set _ g 1 (.int .i64 xs.length))))
  clear hb hU
  go_wp2_with (go_at_call 28; refine (FIN.out _ ?hw).mono ?_; (case hw => exact HS.out _ rfl); rintro en w2 ⟨rfl, b1, b2⟩; have N1 := Aside0.mk b1; have N2 := Aside0.mk b2; clear b1 b2)
  go_ret
  exact ⟨rfl, N1.out, HU.out.trans N2.out⟩
set_option maxHeartbeats 4000000 in
set_option maxRecDepth 100000 in
theorem bytes_neg (hi g : Nat) (xs : List Int) (n : Nat) (e m : Int) (w : World) (h : RAt hi w g xs n false e) (hm : m < 0) :
    Calls Try.prog 30 #[.pointer (some ⟨g, 0, none⟩), .int .i64 m] w fun en w' => en = .returned (.slice none 0 0) ∧ RAt hi w' g xs xs.length true (fstE e 2) ∧ Upd g w w' := by
  obtain ⟨h1, hn, hx, A, c, h2, h3, h4⟩ := h
  obtain ⟨⟨k0, k1, k2, k3⟩, f0, f1, f2, f3⟩ := cells4 h2
  have H2 := Aside0.mk h2
  have H4 := Aside0.mk h4
  clear h2 h4
  have hu1 := Try.underlying60
  have d1 : decide (m < 0) = true := decide_eq_true hm
  have c1 : wrap64 ((xs.length : Int) - (n : Int)) = (xs.length : Int) - (n : Int) := wrap64_id (by omega) (by omega)
  have FIN := Aside0.mk (fun (W : World) (hW : RAt hi W g xs xs.length true e) => need_any hi g xs xs.length true e W hW 2)
  go_enter Try.func30, Try.ntmps30
  go_wp2
  refine start_ (n := 22) (S := fun w' => w'.cell? ⟨g, 0, none⟩ = some (.slice A xs.length c) ∧ w'.cell? ⟨g, 1, none⟩ = some (.int .i64 n) ∧ w'.cell? ⟨g, 2, none⟩ = some (.bool false) ∧ Aside0 (w'.heap[g]? = some (.cells #[.slice A xs.length c, .int .i64 n, .bool false, .int .i64 e] 60 (0, 0))) ∧ Aside0 (Upd g w w')) (ds := []) (bm 22 0) (by as_aux_lemma => kernel_rfl) rfl (by as_aux_lemma => kernel_rfl) ⟨k0, k1, k2, (Aside0.mk H2.out), (Aside0.mk ⟨rfl, rfl, rfl, (Kept.refl _ _).drew⟩)⟩ (fun hHeld => ?_)
  refine with_tabW rbytes.tab1 rbytes.bits1 (fun HT_ HW_ => ?_)
  refine pure_ (i := 0) (N := some 5) (v := ?_) (a' := ?_) (bm 22 1) rfl rfl (any_of HT_.out (by as_aux_lemma => kernel_rfl)) (fun _ _ _ h => h) (Or.inl ⟨by rfl, ?_⟩) ?_ ?_
  rotate_left
  · intro w'
    go_simp
    with_reducible rfl
  rotate_left
  · simp only [Act.put, List.setIfInBounds_toArray, List.set_cons_zero, List.set_cons_succ, i64_w, i32_w]
    rfl
  refine pure_ (i := 1) (N := some 6) (v := ?_) (a' := ?_) (bm 22 3) rfl rfl (any_of HT_.out (by as_aux_lemma => kernel_rfl)) (fun _ _ _ h => h) (Or.inl ⟨by rfl, ?_⟩) ?_ ?_
  rotate_left
  · intro w'
    go_simp
    with_reducible rfl
  rotate_left
  · simp only [Act.put, List.setIfInBounds_toArray, List.set_cons_zero, List.set_cons_succ, i64_w, i32_w]
    rfl
  refine pure_ (i := 2) (N := some 7) (v := ?_) (a' := ?_) (bm 22 7) rfl rfl (any_of HT_.out (by as_aux_lemma => kernel_rfl)) (fun _ _ _ h => h) (Or.inl ⟨by rfl, ?_⟩) ?_ ?_
  rotate_left
  · intro w'
    go_simp
    with_reducible rfl
  rotate_left
  · simp only [Act.put, List.setIfInBounds_toArray, List.set_cons_zero, List.set_cons_succ, i64_w, i32_w]
    rfl
  refine take_ (i := 3) (N := some 8) (v := ?_) (a' := ?_) (bm 22 15) rfl rfl (take_ofW HT_.out HW_.out (by as_aux_lemma => kernel_rfl)) (fun _ _ _ h => h) (Or.inl ⟨by rfl, ?_⟩) hHeld ?_ ?_
  rotate_left
  · rintro w' ⟨s0, s1, s2, s3, s4⟩
    go_simp
    with_reducible rfl
  rotate_left
  · simp only [Act.put, List.setIfInBounds_toArray, List.set_cons_zero, List.set_cons_succ, i64_w, i32_w]
    rfl
  refine pure_ (i := 4) (N := some 9) (v := ?_) (a' := ?_) (bm 22 31) rfl rfl (any_of HT_.out (by as_aux_lemma => kernel_rfl)) (fun _ _ _ h => h) (Or.inl ⟨by rfl, ?_⟩) ?_ ?_
  rotate_left
  · intro w'
    go_simp
    with_reducible rfl
  rotate_left
  · simp only [Act.put, List.setIfInBounds_toArray, List.set_cons_zero, List.set_cons_succ, i64_w, i32_w]
    rfl
  refine pure_ (i := 5) (N := some 10) (v := ?_) (a' := ?_) (bm 22 63) rfl rfl (any_of HT_.out (by as_aux_lemma => kernel_rfl)) (fun _ _ _ h => h) (Or.inl ⟨by rfl, ?_⟩) ?_ ?_
  rotate_left
  · intro w'
    go_simp
    with_reducible rfl
  rotate_left
  · simp only [Act.put, List.setIfInBounds_toArray, List.set_cons_zero, List.set_cons_succ, i64_w, i32_w]
    rfl
  refine pure_ (i := 6) (N := some 11) (v := ?_) (a' := ?_) (bm 22 127) rfl rfl (any_of HT_.out (by as_aux_lemma => kernel_rfl)) (fun _ _ _ h => h) (Or.inl ⟨by rfl, ?_⟩) ?_ ?_
  rotate_left
  · intro w'
    go_simp
    with_reducible rfl
  rotate_left
  · simp only [Act.put, List.setIfInBounds_toArray, List.set_cons_zero, List.set_cons_succ, i64_w, i32_w]
    rfl
  refine pure_ (i := 7) (N := some 12) (v := ?_) (a' := ?_) (bm 22 255) rfl rfl (any_of HT_.out (by as_aux_lemma => kernel_rfl)) (fun _ _ _ h => h) (Or.inl ⟨by rfl, ?_⟩) ?_ ?_
  rotate_left
  · intro w'
    go_simp
    with_reducible rfl
  rotate_left
  · simp only [Act.put, List.setIfInBounds_toArray, List.set_cons_zero, List.set_cons_succ, i64_w, i32_w]
    rfl
  refine pure_ (i := 8) (N := some 13) (v := ?_) (a' := ?_) (bm 22 511) rfl rfl (any_of HT_.out (by as_aux_lemma => kernel_rfl)) (fun _ _ _ h => h) (Or.inl ⟨by rfl, ?_⟩) ?_ ?_
  rotate_left
  · intro w'
    go_simp
    with_reducible rfl
  rotate_left
  · simp only [Act.put, List.setIfInBounds_toArray, List.set_cons_zero, List.set_cons_succ, i64_w, i32_w]
    rfl
  refine pure_ (i := 9) (N := some 14) (v := undef) (a' := ?_) (bm 22 1023) rfl rfl (any_of HT_.out (by as_aux_lemma => kernel_rfl)) (fun _ _ _ h => h) (Or.inr ⟨by rfl, rfl⟩) ?_ ?_
  rotate_left
  · simp only [Act.put, List.setIfInBounds_toArray, List.set_cons_zero, List.set_cons_succ, i64_w, i32_w]
    rfl
  refine pure_ (i := 10) (N := some 15) (v := undef) (a' := ?_) (bm 22 2047) rfl rfl (any_of HT_.out (by as_aux_lemma => kernel_rfl)) (fun _ _ _ h => h) (Or.inr ⟨by rfl, rfl⟩) ?_ ?_
  rotate_left
  · simp only [Act.put, List.setIfInBounds_toArray, List.set_cons_zero, List.set_cons_succ, i64_w, i32_w]
    rfl
  refine pure_ (i := 11) (N := some 16) (v := undef) (a' := ?_) (bm 22 4095) rfl rfl (any_of HT_.out (by as_aux_lemma => kernel_rfl)) (fun _ _ _ h => h) (Or.inr ⟨by rfl, rfl⟩) ?_ ?_
  rotate_left
  · simp only [Act.put, List.setIfInBounds_toArray, List.set_cons_zero, List.set_cons_succ, i64_w, i32_w]
    rfl
  refine pure_ (i := 12) (N := some 17) (v := undef) (a' := ?_) (bm 22 8191) rfl rfl (any_of HT_.out (by as_aux_lemma => kernel_rfl)) (fun _ _ _ h => h) (Or.inr ⟨by rfl, rfl⟩) ?_ ?_
  rotate_left
  · simp only [Act.put, List.setIfInBounds_toArray, List.set_cons_zero, List.set_cons_succ, i64_w, i32_w]
    rfl
  refine pure_ (i := 13) (N := some 18) (v := undef) (a' := ?_) (bm 22 16383) rfl rfl (any_of HT_.out (by as_aux_lemma => kernel_rfl)) (fun _ _ _ h => h) (Or.inr ⟨by rfl, rfl⟩) ?_ ?_
  rotate_left
  · simp only [Act.put, List.setIfInBounds_toArray, List.set_cons_zero, List.set_cons_succ, i64_w, i32_w]
    rfl
  refine pure_ (i := 14) (N := some 19) (v := undef) (a' := ?_) (bm 22 32767) rfl rfl (any_of HT_.out (by as_aux_lemma => kernel_rfl)) (fun _ _ _ h => h) (Or.inr ⟨by rfl, rfl⟩) ?_ ?_
  rotate_left
  · simp only [Act.put, List.setIfInBounds_toArray, List.set_cons_zero, List.set_cons_succ, i64_w, i32_w]
    rfl
  refine pure_ (i := 15) (N := some 20) (v := undef) (a' := ?_) (bm 22 65535) rfl rfl (any_of HT_.out (by as_aux_lemma => kernel_rfl)) (fun _ _ _ h => h) (Or.inr ⟨by rfl, rfl⟩) ?_ ?_
  rotate_left
  · simp only [Act.put, List.setIfInBounds_toArray, List.set_cons_zero, List.set_cons_succ, i64_w, i32_w]
    rfl
  refine pure_ (i := 16) (N := some 21) (v := undef) (a' := ?_) (bm 22 131071) rfl rfl (any_of HT_.out (by as_aux_lemma => kernel_rfl)) (fun _ _ _ h => h) (Or.inr ⟨by rfl, rfl⟩) ?_ ?_
  rotate_left
  · simp only [Act.put, List.setIfInBounds_toArray, List.set_cons_zero, List.set_cons_succ, i64_w, i32_w]
    rfl
  refine pure_ (i := 17) (N := some 22) (v := undef) (a' := ?_) (bm 22 262143) rfl rfl (any_of HT_.out (by as_aux_lemma => kernel_rfl)) (fun _ _ _ h => h) (Or.inr ⟨by rfl, rfl⟩) ?_ ?_
  rotate_left
  · simp only [Act.put, List.setIfInBounds_toArray, List.set_cons_zero, List.set_cons_succ, i64_w, i32_w]
    rfl
  refine pure_ (i := 18) (N := some 23) (v := undef) (a' := ?_) (bm 22 524287) rfl rfl (any_of HT_.out (by as_aux_lemma => kernel_rfl)) (fun _ _ _ h => h) (Or.inr ⟨by rfl, rfl⟩) ?_ ?_
  rotate_left
  · simp only [Act.put, List.setIfInBounds_toArray, List.set_cons_zero, List.set_cons_succ, i64_w, i32_w]
    rfl
  refine pure_ (i := 19) (N := some 24) (v := undef) (a' := ?_) (bm 22 1048575) rfl rfl (any_of HT_.out (by as_aux_lemma => kernel_rfl)) (fun _ _ _ h => h) (Or.inr ⟨by rfl, rfl⟩) ?_ ?_
  rotate_left
  · simp only [Act.put, List.setIfInBounds_toArray, List.set_cons_zero, List.set_cons_succ, i64_w, i32_w]
    rfl
  refine pure_ (i := 20) (N := some 25) (v := undef) (a' := ?_) (bm 22 2097151) rfl rfl (any_of HT_.out (by as_aux_lemma => kernel_rfl)) (fun _ _ _ h => h) (Or.inr ⟨by rfl, rfl⟩) ?_ ?_
  rotate_left
  · simp only [Act.put, List.setIfInBounds_toArray, List.set_cons_zero, List.set_cons_succ, i64_w, i32_w]
    rfl
  refine pure_ (i := 21) (N := some 26) (v := ?_) (a' := ?_) (bm 22 4194303) rfl rfl (any_of HT_.out (by as_aux_lemma => kernel_rfl)) (fun _ _ _ h => h) (Or.inl ⟨by rfl, ?_⟩) ?_ ?_
  rotate_left
  · intro w'
    go_simp
    with_reducible rfl
  rotate_left
  · simp only [Act.put, List.setIfInBounds_toArray, List.set_cons_zero, List.set_cons_succ, i64_w, i32_w]
    rfl
  refine done_ (done_of HT_.out (by as_aux_lemma => kernel_rfl)) ?_
  have hb := hHeld.2.2.2.1.out
  have hU := hHeld.2.2.2.2.out
  obtain ⟨⟨q0, q1, q2, q3⟩, p0, p1, p2, p3⟩ := cells4 hb
  clear hHeld
  generalize World.drew w = wd at *
  have HS := Aside0.mk (fun (W : World) (hW : W = (wd.setCell ⟨g, 2, none⟩ (.bool true)).setCell ⟨g, 1, none⟩ (.int .i64 xs.length)) => (by
    subst hW
    exact ⟨h1, Nat.le_refl _, hx, A, c, blk_put (blk_put hb 2 _ rfl) 1 _ rfl, h3, H4.out.on ((hU.trans ((Upd.set _ _ _ _).trans (Upd.set _ _ _ _))).kept.mono (fun k hk => .inr (by omega)))⟩ : RAt hi W g xs xs.length true e))
  have HU := Aside0.mk (hU.trans ((Upd.set wd g 2 (.bool true)).trans (Upd.set _ g 1 (.int .i64 xs.length))))
  clear hb hU
  go_wp2_with (go_at_call 28; refine (FIN.out _ ?hw).mono ?_; (case hw => exact HS.out _ rfl); rintro en w2 ⟨rfl, b1, b2⟩; have N1 := Aside0.mk b1; have N2 := Aside0.mk b2; clear b1 b2)
  go_ret
  exact ⟨rfl, N1.out, HU.out.trans N2.out⟩
set_option maxHeartbeats 4000000 in
set_option maxRecDepth 100000 in
theorem bytes_over (hi g : Nat) (xs : List Int) (n : Nat) (e m : Int) (w : World) (h : RAt hi w g xs n false e) (hm : ¬ m < 0) (ho : (xs.length : Int) - n < m) :
    Calls Try.prog 30 #[.pointer (some ⟨g, 0, none⟩), .int .i64 m] w fun en w' => en = .returned (.slice none 0 0) ∧ RAt hi w' g xs xs.length true (fstE e 2) ∧ Upd g w w' := by
  obtain ⟨h1, hn, hx, A, c, h2, h3, h4⟩ := h
  obtain ⟨⟨k0, k1, k2, k3⟩, f0, f1, f2, f3⟩ := cells4 h2
  have H2 := Aside0.mk h2
  have H4 := Aside0.mk h4
  clear h2 h4
  have hu1 := Try.underlying60
  have d1 : decide (m < 0) = false := decide_eq_false hm
  have d2 : decide (m > (xs.length : Int) - (n : Int)) = true := decide_eq_true ho
  have d3 : decide ((xs.length : Int) - (n : Int) < m) = true := decide_eq_true ho
  have c1 : wrap64 ((xs.length : Int) - (n : Int)) = (xs.length : Int) - (n : Int) := wrap64_id (by omega) (by omega)
  have FIN := Aside0.mk (fun (W : World) (hW : RAt hi W g xs xs.length true e) => need_any hi g xs xs.length true e W hW 2)
  go_enter Try.func30, Try.ntmps30
  go_wp2
  refine start_ (n := 22) (S := fun w' => w'.cell? ⟨g, 0, none⟩ = some (.slice A xs.length c) ∧ w'.cell? ⟨g, 1, none⟩ = some (.int .i64 n) ∧ w'.cell? ⟨g, 2, none⟩ = some (.bool false) ∧ Aside0 (w'.heap[g]? = some (.cells #[.slice A xs.length c, .int .i64 n, .bool false, .int .i64 e] 60 (0, 0))) ∧ Aside0 (Upd g w w')) (ds := []) (bm 22 0) (by as_aux_lemma => kernel_rfl) rfl (by as_aux_lemma => kernel_rfl) ⟨k0, k1, k2, (Aside0.mk H2.out), (Aside0.mk ⟨rfl, rfl, rfl, (Kept.refl _ _).drew⟩)⟩ (fun hHeld => ?_)
  refine with_tabW rbytes.tab1 rbytes.bits1 (fun HT_ HW_ => ?_)
  refine pure_ (i := 0) (N := some 5) (v := ?_) (a' := ?_) (bm 22 1) rfl rfl (any_of HT_.out (by as_aux_lemma => kernel_rfl)) (fun _ _ _ h => h) (Or.inl ⟨by rfl, ?_⟩) ?_ ?_
  rotate_left
  · intro w'
    go_simp
    with_reducible rfl
  rotate_left
  · simp only [Act.put, List.setIfInBounds_toArray, List.set_cons_zero, List.set_cons_succ, i64_w, i32_w]
    rfl
  refine pure_ (i := 1) (N := some 6) (v := ?_) (a' := ?_) (bm 22 3) rfl rfl (any_of HT_.out (by as_aux_lemma => kernel_rfl)) (fun _ _ _ h => h) (Or.inl ⟨by rfl, ?_⟩) ?_ ?_
  rotate_left
  · intro w'
    go_simp
    with_reducible rfl
  rotate_left
  · simp only [Act.put, List.setIfInBounds_toArray, List.set_cons_zero, List.set_cons_succ, i64_w, i32_w]
    rfl
  refine pure_ (i := 2) (N := some 7) (v := ?_) (a' := ?_) (bm 22 7) rfl rfl (any_of HT_.out (by as_aux_lemma => kernel_rfl)) (fun _ _ _ h => h) (Or.inl ⟨by rfl, ?_⟩) ?_ ?_
  rotate_left
  · intro w'
    go_simp
    with_reducible rfl
  rotate_left
  · simp only [Act.put, List.setIfInBounds_toArray, List.set_cons_zero, List.set_cons_succ, i64_w, i32_w]
    rfl
  refine take_ (i := 3) (N := some 8) (v := ?_) (a' := ?_) (bm 22 15) rfl rfl (take_ofW HT_.out HW_.out (by as_aux_lemma => kernel_rfl)) (fun _ _ _ h => h) (Or.inl ⟨by rfl, ?_⟩) hHeld ?_ ?_
  rotate_left
  · rintro w' ⟨s0, s1, s2, s3, s4⟩
    go_simp
    with_reducible rfl
  rotate_left
  · simp only [Act.put, List.setIfInBounds_toArray, List.set_cons_zero, List.set_cons_succ, i64_w, i32_w]
    rfl
  refine pure_ (i := 4) (N := some 9) (v := ?_) (a' := ?_) (bm 22 31) rfl rfl (any_of HT_.out (by as_aux_lemma => kernel_rfl)) (fun _ _ _ h => h) (Or.inl ⟨by rfl, ?_⟩) ?_ ?_
  rotate_left
  · intro w'
    go_simp
    with_reducible rfl
  rotate_left
  · simp only [Act.put, List.setIfInBounds_toArray, List.set_cons_zero, List.set_cons_succ, i64_w, i32_w]
    rfl
  refine pure_ (i := 5) (N := some 10) (v := ?_) (a' := ?_) (bm 22 63) rfl rfl (any_of HT_.out (by as_aux_lemma => kernel_rfl)) (fun _ _ _ h => h) (Or.inl ⟨by rfl, ?_⟩) ?_ ?_
  rotate_left
  · intro w'
    go_simp
    with_reducible rfl
  rotate_left
  · simp only [Act.put, List.setIfInBounds_toArray, List.set_cons_zero, List.set_cons_succ, i64_w, i32_w]
    rfl
  refine pure_ (i := 6) (N := some 11) (v := ?_) (a' := ?_) (bm 22 127) rfl rfl (any_of HT_.out (by as_aux_lemma => kernel_rfl)) (fun _ _ _ h => h) (Or.inl ⟨by rfl, ?_⟩) ?_ ?_
  rotate_left
  · intro w'
    go_simp
    with_reducible rfl
  rotate_left
  · simp only [Act.put, List.setIfInBounds_toArray, List.set_cons_zero, List.set_cons_succ, i64_w, i32_w]
    rfl
  refine pure_ (i := 7) (N := some 12) (v := ?_) (a' := ?_) (bm 22 255) rfl rfl (any_of HT_.out (by as_aux_lemma => kernel_rfl)) (fun _ _ _ h => h) (Or.inl ⟨by rfl, ?_⟩) ?_ ?_
  rotate_left
  · intro w'
    go_simp
    with_reducible rfl
  rotate_left
  · simp only [Act.put, List.setIfInBounds_toArray, List.set_cons_zero, List.set_cons_succ, i64_w, i32_w]
    rfl
  refine pure_ (i := 8) (N := some 13) (v := ?_) (a' := ?_) (bm 22 511) rfl rfl (any_of HT_.out (by as_aux_lemma => kernel_rfl)) (fun _ _ _ h => h) (Or.inl ⟨by rfl, ?_⟩) ?_ ?_
  rotate_left
  · intro w'
    go_simp
    with_reducible rfl
  rotate_left
  · simp only [Act.put, List.setIfInBounds_toArray, List.set_cons_zero, List.set_cons_succ, i64_w, i32_w]
    rfl
  refine pure_ (i := 9) (N := some 14) (v := ?_) (a' := ?_) (bm 22 1023) rfl rfl (any_of HT_.out (by as_aux_lemma => kernel_rfl)) (fun _ _ _ h => h) (Or.inl ⟨by rfl, ?_⟩) ?_ ?_
  rotate_left
  · intro w'
    go_simp
    with_reducible rfl
  rotate_left
  · simp only [Act.put, List.setIfInBounds_toArray, List.set_cons_zero, List.set_cons_succ, i64_w, i32_w]
    rfl
  refine pure_ (i := 10) (N := some 15) (v := ?_) (a' := ?_) (bm 22 2047) rfl rfl (any_of HT_.out (by as_aux_lemma => kernel_rfl)) (fun _ _ _ h => h) (Or.inl ⟨by rfl, ?_⟩) ?_ ?_
  rotate_left
  · intro w'
    go_simp
    with_reducible rfl
  rotate_left
  · simp only [Act.put, List.setIfInBounds_toArray, List.set_cons_zero, List.set_cons_succ, i64_w, i32_w]
    rfl
  refine pure_ (i := 11) (N := some 16) (v := ?_) (a' := ?_) (bm 22 4095) rfl rfl (any_of HT_.out (by as_aux_lemma => kernel_rfl)) (fun _ _ _ h => h) (Or.inl ⟨by rfl, ?_⟩) ?_ ?_
  rotate_left
  · intro w'
    go_simp
    with_reducible rfl
  rotate_left
  · simp only [Act.put, List.setIfInBounds_toArray, List.set_cons_zero, List.set_cons_succ, i64_w, i32_w]
    rfl
  refine pure_ (i := 12) (N := some 17) (v := ?_) (a' := ?_) (bm 22 8191) rfl rfl (any_of HT_.out (by as_aux_lemma => kernel_rfl)) (fun _ _ _ h => h) (Or.inl ⟨by rfl, ?_⟩) ?_ ?_
  rotate_left
  · intro w'
    go_simp
    with_reducible rfl
  rotate_left
  · simp only [Act.put, List.setIfInBounds_toArray, List.set_cons_zero, List.set_cons_succ, i64_w, i32_w]
    rfl
  refine pure_ (i := 15) (N := some 20) (v := ?_) (a' := ?_) (bm 22 40959) rfl rfl (any_of HT_.out (by as_aux_lemma => kernel_rfl)) (fun _ _ _ h => h) (Or.inl ⟨by rfl, ?_⟩) ?_ ?_
  rotate_left
  · intro w'
    go_simp
    with_reducible rfl
  rotate_left
  · simp only [Act.put, List.setIfInBounds_toArray, List.set_cons_zero, List.set_cons_succ, i64_w, i32_w]
    rfl
  refine pure_ (i := 16) (N := some 21) (v := ?_) (a' := ?_) (bm 22 106495) rfl rfl (any_of HT_.out (by as_aux_lemma => kernel_rfl)) (fun _ _ _ h => h) (Or.inl ⟨by rfl, ?_⟩) ?_ ?_
  rotate_left
  · intro w'
    go_simp
    with_reducible rfl
  rotate_left
  · simp only [Act.put, List.setIfInBounds_toArray, List.set_cons_zero, List.set_cons_succ, i64_w, i32_w]
    rfl
  refine pure_ (i := 17) (N := some 22) (v := ?_) (a' := ?_) (bm 22 237567) rfl rfl (any_of HT_.out (by as_aux_lemma => kernel_rfl)) (fun _ _ _ h => h) (Or.inl ⟨by rfl, ?_⟩) ?_ ?_
  rotate_left
  · intro w'
    go_simp
    with_reducible rfl
  rotate_left
  · simp only [Act.put, List.setIfInBounds_toArray, List.set_cons_zero, List.set_cons_succ, i64_w, i32_w]
    rfl
  refine take_ (i := 13) (N := some 18) (v := ?_) (a' := ?_) (bm 22 245759) rfl rfl (take_ofW HT_.out HW_.out (by as_aux_lemma => kernel_rfl)) (fun _ _ _ h => h) (Or.inl ⟨by rfl, ?_⟩) hHeld ?_ ?_
  rotate_left
  · rintro w' ⟨s0, s1, s2, s3, s4⟩
    go_simp
    with_reducible rfl
  rotate_left
  · simp only [Act.put, List.setIfInBounds_toArray, List.set_cons_zero, List.set_cons_succ, i64_w, i32_w]
    rfl
  refine pure_ (i := 14) (N := some 19) (v := ?_) (a' := ?_) (bm 22 262143) rfl rfl (any_of HT_.out (by as_aux_lemma => kernel_rfl)) (fun _ _ _ h => h) (Or.inl ⟨by rfl, ?_⟩) ?_ ?_
  rotate_left
  · intro w'
    go_simp
    with_reducible rfl
  rotate_left
  · simp only [Act.put, List.setIfInBounds_toArray, List.set_cons_zero, List.set_cons_succ, i64_w, i32_w]
    rfl
  refine take_ (i := 18) (N := some 23) (v := ?_) (a' := ?_) (bm 22 524287) rfl rfl (take_ofW HT_.out HW_.out (by as_aux_lemma => kernel_rfl)) (fun _ _ _ h => h) (Or.inl ⟨by rfl, ?_⟩) hHeld ?_ ?_
  rotate_left
  · rintro w' ⟨s0, s1, s2, s3, s4⟩
    go_simp
    with_reducible rfl
  rotate_left
  · simp only [Act.put, List.setIfInBounds_toArray, List.set_cons_zero, List.set_cons_succ, i64_w, i32_w]
    rfl
  refine pure_ (i := 19) (N := some 24) (v := ?_) (a' := ?_) (bm 22 1048575) rfl rfl (any_of HT_.out (by as_aux_lemma => kernel_rfl)) (fun _ _ _ h => h) (Or.inl ⟨by rfl, ?_⟩) ?_ ?_
  rotate_left
  · intro w'
    go_simp
    with_reducible rfl
  rotate_left
  · simp only [Act.put, List.setIfInBounds_toArray, List.set_cons_zero, List.set_cons_succ, i64_w, i32_w]
    rfl
  refine pure_ (i := 20) (N := some 25) (v := ?_) (a' := ?_) (bm 22 2097151) rfl rfl (any_of HT_.out (by as_aux_lemma => kernel_rfl)) (fun _ _ _ h => h) (Or.inl ⟨by rfl, ?_⟩) ?_ ?_
  rotate_left
  · intro w'
    go_simp
    with_reducible rfl
  rotate_left
  · simp only [Act.put, List.setIfInBounds_toArray, List.set_cons_zero, List.set_cons_succ, i64_w, i32_w]
    rfl
  refine pure_ (i := 21) (N := some 26) (v := ?_) (a' := ?_) (bm 22 4194303) rfl rfl (any_of HT_.out (by as_aux_lemma => kernel_rfl)) (fun _ _ _ h => h) (Or.inl ⟨by rfl, ?_⟩) ?_ ?_
  rotate_left
  · intro w'
    go_simp
    with_reducible rfl
  rotate_left
  · simp only [Act.put, List.setIfInBounds_toArray, List.set_cons_zero, List.set_cons_succ, i64_w, i32_w]
    rfl
  refine done_ (done_of HT_.out (by as_aux_lemma => kernel_rfl)) ?_
  have hb := hHeld.2.2.2.1.out
  have hU := hHeld.2.2.2.2.out
  obtain ⟨⟨q0, q1, q2, q3⟩, p0, p1, p2, p3⟩ := cells4 hb
  clear hHeld
  generalize World.drew w = wd at *
  have HS := Aside0.mk (fun (W : World) (hW : W = (wd.setCell ⟨g, 2, none⟩ (.bool true)).setCell ⟨g, 1, none⟩ (.int .i64 xs.length)) => (by
    subst hW
    exact ⟨h1, Nat.le_refl _, hx, A, c, blk_put (blk_put hb 2 _ rfl) 1 _ rfl, h3, H4.out.on ((hU.trans ((Upd.set _ _ _ _).trans (Upd.set _ _ _ _))).kept.mono (fun k hk => .inr (by omega)))⟩ : RAt hi W g xs xs.length true e))
  have HU := Aside0.mk (hU.trans ((Upd.set wd g 2 (.bool true)).trans (Upd.set _ g 1 (.int .i64 xs.length))))
  clear hb hU
  go_wp2_with (go_at_call 28; refine (FIN.out _ ?hw).mono ?_; (case hw => exact HS.out _ rfl); rintro en w2 ⟨rfl, b1, b2⟩; have N1 := Aside0.mk b1; have N2 := Aside0.mk b2; clear b1 b2)
  go_ret
  exact ⟨rfl, N1.out, HU.out.trans N2.out⟩
set_option maxHeartbeats 4000000 in
set_option maxRecDepth 100000 in
theorem bytes_ok (hi g : Nat) (xs : List Int) (n : Nat) (e : Int) (m : Nat) (w : World) (h : RAt hi w g xs n false e) (hm : m ≤ xs.length - n) :
    Calls Try.prog 30 #[.pointer (some ⟨g, 0, none⟩), .int .i64 m] w fun en w' => ∃ A' c', en = .returned (.slice A' ((xs.drop n).take m).length c') ∧ ((xs.drop n).take m).length ≤ c' ∧ Row 0 hi w' A' ((xs.drop n).take m) ∧ RAt hi w' g xs (n + m) false e ∧ Upd g w w' := by
  obtain ⟨h1, hn, hx, A, c, h2, h3, h4⟩ := h
  obtain ⟨⟨k0, k1, k2, k3⟩, f0, f1, f2, f3⟩ := cells4 h2
  have H2 := Aside0.mk h2
  have H4 := Aside0.mk h4
  clear h2 h4
  have hu1 := Try.underlying60
  have c1 : wrap64 ((xs.length : Int) - (n : Int)) = (xs.length : Int) - (n : Int) := wrap64_id (by omega) (by omega)
  have d1 : decide ((m : Int) < 0) = false := decide_eq_false (by omega)
  have d2 : decide ((m : Int) > (xs.length : Int) - (n : Int)) = false := decide_eq_false (by omega)
  have d3 : decide ((xs.length : Int) - (n : Int) < (m : Int)) = false := decide_eq_false (by omega)
  have c2 : wrap64 ((n : Int) + (m : Int)) = (n : Int) + (m : Int) := wrap64_id (by omega) (by omega)
  have c3 : wrap64 ((n : Int) + (m : Int) - (m : Int)) = (n : Int) := by rw [wrap64_id (by omega) (by omega)]; omega
  have c5 : wrap64 (n : Int) = (n : Int) := wrap64_id (by omega) (by omega)
  have c4 : (n : Int) + (m : Int) - (m : Int) = (n : Int) := by omega
  clear c3
  obtain ⟨i, hi1, hi2⟩ := u8_info
  have cut := cut_mid 22 5 .i64 .i64 Try.underlying22 hi1 1 hi2 A xs.length c (n : Int) ((n : Int) + (m : Int)) (by omega) (by omega) (by omega) h3
  have hl : ((xs.drop n).take m).length = m := by rw [List.length_take, List.length_drop]; omega
  have hZt : ((n : Int) + (m : Int)).toNat = n + m := by omega
  have hZm : n + m - n = m := by omega
  rw [hZt, Int.toNat_natCast, hZm] at cut
  obtain ⟨A2, hA2⟩ : ∃ A2, A2 = if c = n then A else A.map fun x => x.add (n * 1) := ⟨_, rfl⟩
  rw [← hA2] at cut
  have HR : ∀ W', Kept w W' (fun k => k < 0 ∨ hi ≤ k) → Kd.C (Kd.int .u8) W' A2 ((xs.drop n).take m).length ((xs.drop n).take m) := fun W' hk => Kd.C_take (by have := Kd.C_drop (H4.out W' hk) hn h3; rw [hA2]; exact this) (by rw [List.length_drop]; omega)
  have HRR := Aside0.mk HR
  have hcn : m ≤ c - n := by omega
  clear HR hA2 hi1 hZm hZt
  rw [hl]
  go_enter Try.func30, Try.ntmps30
  go_wp2
  refine start_ (n := 22) (S := fun w' => w'.cell? ⟨g, 0, none⟩ = some (.slice A xs.length c) ∧ w'.cell? ⟨g, 1, none⟩ = some (.int .i64 n) ∧ w'.cell? ⟨g, 2, none⟩ = some (.bool false) ∧ Aside0 (w'.heap[g]? = some (.cells #[.slice A xs.length c, .int .i64 n, .bool false, .int .i64 e] 60 (0, 0))) ∧ Aside0 (Upd g w w')) (ds := []) (bm 22 0) (by as_aux_lemma => kernel_rfl) rfl (by as_aux_lemma => kernel_rfl) ⟨k0, k1, k2, (Aside0.mk H2.out), (Aside0.mk ⟨rfl, rfl, rfl, (Kept.refl _ _).drew⟩)⟩ (fun hHeld => ?_)
  refine with_tabW rbytes.tab1 rbytes.bits1 (fun HT_ HW_ => ?_)
  refine pure_ (i := 0) (N := some 5) (v := ?_) (a' := ?_) (bm 22 1) rfl rfl (any_of HT_.out (by as_aux_lemma => kernel_rfl)) (fun _ _ _ h => h) (Or.inl ⟨by rfl, ?_⟩) ?_ ?_
  rotate_left
  · intro w'
    go_simp
    with_reducible rfl
  rotate_left
  · simp only [Act.put, List.setIfInBounds_toArray, List.set_cons_zero, List.set_cons_succ, i64_w, i32_w]
    rfl
  refine pure_ (i := 1) (N := some 6) (v := ?_) (a' := ?_) (bm 22 3) rfl rfl (any_of HT_.out (by as_aux_lemma => kernel_rfl)) (fun _ _ _ h => h) (Or.inl ⟨by rfl, ?_⟩) ?_ ?_
  rotate_left
  · intro w'
    go_simp
    with_reducible rfl
  rotate_left
  · simp only [Act.put, List.setIfInBounds_toArray, List.set_cons_zero, List.set_cons_succ, i64_w, i32_w]
    rfl
  refine pure_ (i := 2) (N := some 7) (v := ?_) (a' := ?_) (bm 22 7) rfl rfl (any_of HT_.out (by as_aux_lemma => kernel_rfl)) (fun _ _ _ h => h) (Or.inl ⟨by rfl, ?_⟩) ?_ ?_
  rotate_left
  · intro w'
    go_simp
    with_reducible rfl
  rotate_left
  · simp only [Act.put, List.setIfInBounds_toArray, List.set_cons_zero, List.set_cons_succ, i64_w, i32_w]
    rfl
  refine take_ (i := 3) (N := some 8) (v := ?_) (a' := ?_) (bm 22 15) rfl rfl (take_ofW HT_.out HW_.out (by as_aux_lemma => kernel_rfl)) (fun _ _ _ h => h) (Or.inl ⟨by rfl, ?_⟩) hHeld ?_ ?_
  rotate_left
  · rintro w' ⟨s0, s1, s2, s3, s4⟩
    go_simp
    with_reducible rfl
  rotate_left
  · simp only [Act.put, List.setIfInBounds_toArray, List.set_cons_zero, List.set_cons_succ, i64_w, i32_w]
    rfl
  refine pure_ (i := 4) (N := some 9) (v := ?_) (a' := ?_) (bm 22 31) rfl rfl (any_of HT_.out (by as_aux_lemma => kernel_rfl)) (fun _ _ _ h => h) (Or.inl ⟨by rfl, ?_⟩) ?_ ?_
  rotate_left
  · intro w'
    go_simp
    with_reducible rfl
  rotate_left
  · simp only [Act.put, List.setIfInBounds_toArray, List.set_cons_zero, List.set_cons_succ, i64_w, i32_w]
    rfl
  refine pure_ (i := 5) (N := some 10) (v := ?_) (a' := ?_) (bm 22 63) rfl rfl (any_of HT_.out (by as_aux_lemma => kernel_rfl)) (fun _ _ _ h => h) (Or.inl ⟨by rfl, ?_⟩) ?_ ?_
  rotate_left
  · intro w'
    go_simp
    with_reducible rfl
  rotate_left
  · simp only [Act.put, List.setIfInBounds_toArray, List.set_cons_zero, List.set_cons_succ, i64_w, i32_w]
    rfl
  refine pure_ (i := 6) (N := some 11) (v := ?_) (a' := ?_) (bm 22 127) rfl rfl (any_of HT_.out (by as_aux_lemma => kernel_rfl)) (fun _ _ _ h => h) (Or.inl ⟨by rfl, ?_⟩) ?_ ?_
  rotate_left
  · intro w'
    go_simp
    with_reducible rfl
  rotate_left
  · simp only [Act.put, List.setIfInBounds_toArray, List.set_cons_zero, List.set_cons_succ, i64_w, i32_w]
    rfl
  refine pure_ (i := 7) (N := some 12) (v := ?_) (a' := ?_) (bm 22 255) rfl rfl (any_of HT_.out (by as_aux_lemma => kernel_rfl)) (fun _ _ _ h => h) (Or.inl ⟨by rfl, ?_⟩) ?_ ?_
  rotate_left
  · intro w'
    go_simp
    with_reducible rfl
  rotate_left
  · simp only [Act.put, List.setIfInBounds_toArray, List.set_cons_zero, List.set_cons_succ, i64_w, i32_w]
    rfl
  refine pure_ (i := 8) (N := some 13) (v := ?_) (a' := ?_) (bm 22 511) rfl rfl (any_of HT_.out (by as_aux_lemma => kernel_rfl)) (fun _ _ _ h => h) (Or.inl ⟨by rfl, ?_⟩) ?_ ?_
  rotate_left
  · intro w'
    go_simp
    with_reducible rfl
  rotate_left
  · simp only [Act.put, List.setIfInBounds_toArray, List.set_cons_zero, List.set_cons_succ, i64_w, i32_w]
    rfl
  refine pure_ (i := 9) (N := some 14) (v := ?_) (a' := ?_) (bm 22 1023) rfl rfl (any_of HT_.out (by as_aux_lemma => kernel_rfl)) (fun _ _ _ h => h) (Or.inl ⟨by rfl, ?_⟩) ?_ ?_
  rotate_left
  · intro w'
    go_simp
    with_reducible rfl
  rotate_left
  · simp only [Act.put, List.setIfInBounds_toArray, List.set_cons_zero, List.set_cons_succ, i64_w, i32_w]
    rfl
  refine pure_ (i := 10) (N := some 15) (v := ?_) (a' := ?_) (bm 22 2047) rfl rfl (any_of HT_.out (by as_aux_lemma => kernel_rfl)) (fun _ _ _ h => h) (Or.inl ⟨by rfl, ?_⟩) ?_ ?_
  rotate_left
  · intro w'
    go_simp
    with_reducible rfl
  rotate_left
  · simp only [Act.put, List.setIfInBounds_toArray, List.set_cons_zero, List.set_cons_succ, i64_w, i32_w]
    rfl
  refine pure_ (i := 11) (N := some 16) (v := ?_) (a' := ?_) (bm 22 4095) rfl rfl (any_of HT_.out (by as_aux_lemma => kernel_rfl)) (fun _ _ _ h => h) (Or.inl ⟨by rfl, ?_⟩) ?_ ?_
  rotate_left
  · intro w'
    go_simp
    with_reducible rfl
  rotate_left
  · simp only [Act.put, List.setIfInBounds_toArray, List.set_cons_zero, List.set_cons_succ, i64_w, i32_w]
    rfl
  refine pure_ (i := 12) (N := some 17) (v := ?_) (a' := ?_) (bm 22 8191) rfl rfl (any_of HT_.out (by as_aux_lemma => kernel_rfl)) (fun _ _ _ h => h) (Or.inl ⟨by rfl, ?_⟩) ?_ ?_
  rotate_left
  · intro w'
    go_simp
    with_reducible rfl
  rotate_left
  · simp only [Act.put, List.setIfInBounds_toArray, List.set_cons_zero, List.set_cons_succ, i64_w, i32_w]
    rfl
  refine pure_ (i := 15) (N := some 20) (v := ?_) (a' := ?_) (bm 22 40959) rfl rfl (any_of HT_.out (by as_aux_lemma => kernel_rfl)) (fun _ _ _ h => h) (Or.inl ⟨by rfl, ?_⟩) ?_ ?_
  rotate_left
  · intro w'
    go_simp
    with_reducible rfl
  rotate_left
  · simp only [Act.put, List.setIfInBounds_toArray, List.set_cons_zero, List.set_cons_succ, i64_w, i32_w]
    rfl
  refine pure_ (i := 16) (N := some 21) (v := ?_) (a' := ?_) (bm 22 106495) rfl rfl (any_of HT_.out (by as_aux_lemma => kernel_rfl)) (fun _ _ _ h => h) (Or.inl ⟨by rfl, ?_⟩) ?_ ?_
  rotate_left
  · intro w'
    go_simp
    with_reducible rfl
  rotate_left
  · simp only [Act.put, List.setIfInBounds_toArray, List.set_cons_zero, List.set_cons_succ, i64_w, i32_w]
    rfl
  refine pure_ (i := 17) (N := some 22) (v := ?_) (a' := ?_) (bm 22 237567) rfl rfl (any_of HT_.out (by as_aux_lemma => kernel_rfl)) (fun _ _ _ h => h) (Or.inl ⟨by rfl, ?_⟩) ?_ ?_
  rotate_left
  · intro w'
    go_simp
    with_reducible rfl
  rotate_left
  · simp only [Act.put, List.setIfInBounds_toArray, List.set_cons_zero, List.set_cons_succ, i64_w, i32_w]
    rfl
  refine take_ (i := 13) (N := some 18) (v := ?_) (a' := ?_) (bm 22 245759) rfl rfl (take_ofW HT_.out HW_.out (by as_aux_lemma => kernel_rfl)) (fun _ _ _ h => h) (Or.inl ⟨by rfl, ?_⟩) hHeld ?_ ?_
  rotate_left
  · rintro w' ⟨s0, s1, s2, s3, s4⟩
    go_simp
    with_reducible rfl
  rotate_left
  · simp only [Act.put, List.setIfInBounds_toArray, List.set_cons_zero, List.set_cons_succ, i64_w, i32_w]
    rfl
  refine pure_ (i := 14) (N := some 19) (v := ?_) (a' := ?_) (bm 22 262143) rfl rfl (any_of HT_.out (by as_aux_lemma => kernel_rfl)) (fun _ _ _ h => h) (Or.inl ⟨by rfl, ?_⟩) ?_ ?_
  rotate_left
  · intro w'
    go_simp
    with_reducible rfl
  rotate_left
  · simp only [Act.put, List.setIfInBounds_toArray, List.set_cons_zero, List.set_cons_succ, i64_w, i32_w]
    rfl
  refine take_ (i := 18) (N := some 23) (v := ?_) (a' := ?_) (bm 22 524287) rfl rfl (take_ofW HT_.out HW_.out (by as_aux_lemma => kernel_rfl)) (fun _ _ _ h => h) (Or.inl ⟨by rfl, ?_⟩) hHeld ?_ ?_
  rotate_left
  · rintro w' ⟨s0, s1, s2, s3, s4⟩
    go_simp
    with_reducible rfl
  rotate_left
  · simp only [Act.put, List.setIfInBounds_toArray, List.set_cons_zero, List.set_cons_succ, i64_w, i32_w]
    rfl
  refine pure_ (i := 19) (N := some 24) (v := ?_) (a' := ?_) (bm 22 1048575) rfl rfl (any_of HT_.out (by as_aux_lemma => kernel_rfl)) (fun _ _ _ h => h) (Or.inl ⟨by rfl, ?_⟩) ?_ ?_
  rotate_left
  · intro w'
    go_simp
    with_reducible rfl
  rotate_left
  · simp only [Act.put, List.setIfInBounds_toArray, List.set_cons_zero, List.set_cons_succ, i64_w, i32_w]
    rfl
  refine pure_ (i := 20) (N := some 25) (v := ?_) (a' := ?_) (bm 22 2097151) rfl rfl (any_of HT_.out (by as_aux_lemma => kernel_rfl)) (fun _ _ _ h => h) (Or.inl ⟨by rfl, ?_⟩) ?_ ?_
  rotate_left
  · intro w'
    go_simp
    with_reducible rfl
  rotate_left
  · simp only [Act.put, List.setIfInBounds_toArray, List.set_cons_zero, List.set_cons_succ, i64_w, i32_w]
    rfl
  refine pure_ (i := 21) (N := some 26) (v := ?_) (a' := ?_) (bm 22 4194303) rfl rfl (any_of HT_.out (by as_aux_lemma => kernel_rfl)) (fun _ _ _ h => h) (Or.inl ⟨by rfl, ?_⟩) ?_ ?_
  rotate_left
  · intro w'
    go_simp
    with_reducible rfl
  rotate_left
  · simp only [Act.put, List.setIfInBounds_toArray, List.set_cons_zero, List.set_cons_succ, i64_w, i32_w]
    rfl
  refine done_ (done_of HT_.out (by as_aux_lemma => kernel_rfl)) ?_
  have hb := hHeld.2.2.2.1.out
  have hU := hHeld.2.2.2.2.out
  obtain ⟨⟨q0, q1, q2, q3⟩, p0, p1, p2, p3⟩ := cells4 hb
  clear hHeld
  clear hb hU
  go_wp2
  have hb2 : (w.setCell ⟨g, 1, none⟩ (.int .i64 ((n : Int) + (m : Int)))).heap[g]? = some (.cells #[.slice A xs.length c, .int .i64 ((n : Int) + (m : Int)), .bool false, .int .i64 e] 60 (0, 0)) := blk_put H2.out 1 _ rfl
  have hU2 := Upd.set w g 1 (.int .i64 ((n : Int) + (m : Int)))
  obtain ⟨⟨r0, r1, r2, r3⟩, _⟩ := cells4 hb2
  refine start_ (n := 16) (S := fun w' => w'.cell? ⟨g, 0, none⟩ = some (.slice A xs.length c) ∧ w'.cell? ⟨g, 1, none⟩ = some (.int .i64 ((n : Int) + (m : Int))) ∧ w'.cell? ⟨g, 2, none⟩ = some (.bool false) ∧ Aside0 (w'.heap[g]? = some (.cells #[.slice A xs.length c, .int .i64 ((n : Int) + (m : Int)), .bool false, .int .i64 e] 60 (0, 0))) ∧ Aside0 (Upd g w w')) (ds := []) (bm 16 0) (by as_aux_lemma => kernel_rfl) rfl (by as_aux_lemma => kernel_rfl) ⟨r0, r1, r2, (Aside0.mk hb2), (Aside0.mk ⟨hU2.os, hU2.tape, hU2.output, hU2.kept⟩)⟩ (fun hHeld => ?_)
  refine with_tabW rbytes.tab7 rbytes.bits7 (fun HT_ HW_ => ?_)
  refine pure_ (i := 0) (N := some 49) (v := ?_) (a' := ?_) (bm 16 1) rfl rfl (any_of HT_.out (by as_aux_lemma => kernel_rfl)) (fun _ _ _ h => h) (Or.inl ⟨by rfl, ?_⟩) ?_ ?_
  rotate_left
  · intro w'
    go_simp
    with_reducible rfl
  rotate_left
  · simp only [Act.put, List.setIfInBounds_toArray, List.set_cons_zero, List.set_cons_succ, i64_w, i32_w]
    rfl
  refine pure_ (i := 1) (N := some 50) (v := ?_) (a' := ?_) (bm 16 3) rfl rfl (any_of HT_.out (by as_aux_lemma => kernel_rfl)) (fun _ _ _ h => h) (Or.inl ⟨by rfl, ?_⟩) ?_ ?_
  rotate_left
  · intro w'
    go_simp
    with_reducible rfl
  rotate_left
  · simp only [Act.put, List.setIfInBounds_toArray, List.set_cons_zero, List.set_cons_succ, i64_w, i32_w]
    rfl
  refine pure_ (i := 2) (N := some 51) (v := ?_) (a' := ?_) (bm 16 7) rfl rfl (any_of HT_.out (by as_aux_lemma => kernel_rfl)) (fun _ _ _ h => h) (Or.inl ⟨by rfl, ?_⟩) ?_ ?_
  rotate_left
  · intro w'
    go_simp
    with_reducible rfl
  rotate_left
  · simp only [Act.put, List.setIfInBounds_toArray, List.set_cons_zero, List.set_cons_succ, i64_w, i32_w]
    rfl
  refine pure_ (i := 4) (N := some 53) (v := ?_) (a' := ?_) (bm 16 23) rfl rfl (any_of HT_.out (by as_aux_lemma => kernel_rfl)) (fun _ _ _ h => h) (Or.inl ⟨by rfl, ?_⟩) ?_ ?_
  rotate_left
  · intro w'
    go_simp
    with_reducible rfl
  rotate_left
  · simp only [Act.put, List.setIfInBounds_toArray, List.set_cons_zero, List.set_cons_succ, i64_w, i32_w]
    rfl
  refine pure_ (i := 5) (N := some 54) (v := ?_) (a' := ?_) (bm 16 55) rfl rfl (any_of HT_.out (by as_aux_lemma => kernel_rfl)) (fun _ _ _ h => h) (Or.inl ⟨by rfl, ?_⟩) ?_ ?_
  rotate_left
  · intro w'
    go_simp
    with_reducible rfl
  rotate_left
  · simp only [Act.put, List.setIfInBounds_toArray, List.set_cons_zero, List.set_cons_succ, i64_w, i32_w]
    rfl
  refine pure_ (i := 6) (N := some 55) (v := ?_) (a' := ?_) (bm 16 119) rfl rfl (any_of HT_.out (by as_aux_lemma => kernel_rfl)) (fun _ _ _ h => h) (Or.inl ⟨by rfl, ?_⟩) ?_ ?_
  rotate_left
  · intro w'
    go_simp
    with_reducible rfl
  rotate_left
  · simp only [Act.put, List.setIfInBounds_toArray, List.set_cons_zero, List.set_cons_succ, i64_w, i32_w]
    rfl
  refine pure_ (i := 8) (N := some 57) (v := ?_) (a' := ?_) (bm 16 375) rfl rfl (any_of HT_.out (by as_aux_lemma => kernel_rfl)) (fun _ _ _ h => h) (Or.inl ⟨by rfl, ?_⟩) ?_ ?_
  rotate_left
  · intro w'
    go_simp
    with_reducible rfl
  rotate_left
  · simp only [Act.put, List.setIfInBounds_toArray, List.set_cons_zero, List.set_cons_succ, i64_w, i32_w]
    rfl
  refine pure_ (i := 10) (N := some 59) (v := ?_) (a' := ?_) (bm 16 1399) rfl rfl (any_of HT_.out (by as_aux_lemma => kernel_rfl)) (fun _ _ _ h => h) (Or.inl ⟨by rfl, ?_⟩) ?_ ?_
  rotate_left
  · intro w'
    go_simp
    with_reducible rfl
  rotate_left
  · simp only [Act.put, List.setIfInBounds_toArray, List.set_cons_zero, List.set_cons_succ, i64_w, i32_w]
    rfl
  refine pure_ (i := 11) (N := some 60) (v := ?_) (a' := ?_) (bm 16 3447) rfl rfl (any_of HT_.out (by as_aux_lemma => kernel_rfl)) (fun _ _ _ h => h) (Or.inl ⟨by rfl, ?_⟩) ?_ ?_
  rotate_left
  · intro w'
    go_simp
    with_reducible rfl
  rotate_left
  · simp only [Act.put, List.setIfInBounds_toArray, List.set_cons_zero, List.set_cons_succ, i64_w, i32_w]
    rfl
  refine pure_ (i := 12) (N := some 61) (v := ?_) (a' := ?_) (bm 16 7543) rfl rfl (any_of HT_.out (by as_aux_lemma => kernel_rfl)) (fun _ _ _ h => h) (Or.inl ⟨by rfl, ?_⟩) ?_ ?_
  rotate_left
  · intro w'
    go_simp
    with_reducible rfl
  rotate_left
  · simp only [Act.put, List.setIfInBounds_toArray, List.set_cons_zero, List.set_cons_succ, i64_w, i32_w]
    rfl
  refine take_ (i := 3) (N := some 52) (v := ?_) (a' := ?_) (bm 16 7551) rfl rfl (take_ofW HT_.out HW_.out (by as_aux_lemma => kernel_rfl)) (fun _ _ _ h => h) (Or.inl ⟨by rfl, ?_⟩) hHeld ?_ ?_
  rotate_left
  · rintro w' ⟨s0, s1, s2, s3, s4⟩
    go_simp
    with_reducible rfl
  rotate_left
  · simp only [Act.put, List.setIfInBounds_toArray, List.set_cons_zero, List.set_cons_succ, i64_w, i32_w]
    rfl
  refine take_ (i := 7) (N := some 56) (v := ?_) (a' := ?_) (bm 16 7679) rfl rfl (take_ofW HT_.out HW_.out (by as_aux_lemma => kernel_rfl)) (fun _ _ _ h => h) (Or.inl ⟨by rfl, ?_⟩) hHeld ?_ ?_
  rotate_left
  · rintro w' ⟨s0, s1, s2, s3, s4⟩
    go_simp
    with_reducible rfl
  rotate_left
  · simp only [Act.put, List.setIfInBounds_toArray, List.set_cons_zero, List.set_cons_succ, i64_w, i32_w]
    rfl
  refine pure_ (i := 9) (N := some 58) (v := ?_) (a' := ?_) (bm 16 8191) rfl rfl (any_of HT_.out (by as_aux_lemma => kernel_rfl)) (fun _ _ _ h => h) (Or.inl ⟨by rfl, ?_⟩) ?_ ?_
  rotate_left
  · intro w'
    go_simp
    with_reducible rfl
  rotate_left
  · simp only [Act.put, List.setIfInBounds_toArray, List.set_cons_zero, List.set_cons_succ, i64_w, i32_w]
    rfl
  refine take_ (i := 13) (N := some 62) (v := ?_) (a' := ?_) (bm 16 16383) rfl rfl (take_ofW HT_.out HW_.out (by as_aux_lemma => kernel_rfl)) (fun _ _ _ h => h) (Or.inl ⟨by rfl, ?_⟩) hHeld ?_ ?_
  rotate_left
  · rintro w' ⟨s0, s1, s2, s3, s4⟩
    go_simp
    with_reducible rfl
  rotate_left
  · simp only [Act.put, List.setIfInBounds_toArray, List.set_cons_zero, List.set_cons_succ, i64_w, i32_w]
    rfl
  refine pure_ (i := 14) (N := some 63) (v := ?_) (a' := ?_) (bm 16 32767) rfl rfl (any_of HT_.out (by as_aux_lemma => kernel_rfl)) (fun _ _ _ h => h) (Or.inl ⟨by rfl, ?_⟩) ?_ ?_
  rotate_left
  · intro w'
    go_simp
    with_reducible rfl
  rotate_left
  · simp only [Act.put, List.setIfInBounds_toArray, List.set_cons_zero, List.set_cons_succ, i64_w, i32_w]
    rfl
  refine pure_ (i := 15) (N := some 4) (v := ?_) (a' := ?_) (bm 16 65535) rfl rfl (any_of HT_.out (by as_aux_lemma => kernel_rfl)) (fun _ _ _ h => h) (Or.inl ⟨by rfl, ?_⟩) ?_ ?_
  rotate_left
  · intro w'
    go_simp
    with_reducible rfl
  rotate_left
  · simp only [Act.put, List.setIfInBounds_toArray, List.set_cons_zero, List.set_cons_succ, i64_w, i32_w]
    rfl
  refine done_ (done_of HT_.out (by as_aux_lemma => kernel_rfl)) ?_
  go_wp2
  go_ret
  have hK := hHeld.2.2.2.2.out
  refine ⟨A2, c - n, rfl, hcn, fun W' hk => HRR.out W' ((hK.kept.mono (fun k hk => .inr (by omega))).then_ hk (fun _ h2 => .inl h2)), ⟨h1, by omega, hx, A, c, ?_, h3, H4.out.on (hK.kept.mono (fun k hk => .inr (by omega)))⟩, hK⟩
  rw [Int.natCast_add]
  exact hHeld.2.2.2.1.out
end Go.Proofs.Ytimclbhlgblifaa.RCur
end
section
namespace Go.Proofs.Ytimclbhlgblifaa.RCur
open Go.RowKit Go.Proofs.Ytimclbhlgblifaa.P Go.Proofs.Ytimclbhlgblifaa.E Go.Proofs.Ytimclbhlgblifaa.Cur Go.Proofs.YtimclbhlgblifaaW.PrintWords Go.Proofs.YtimclbhlgblifaaW.PrintLast Go.Proofs.YtimclbhlgblifaaW.PrintMore
theorem bytes_short (hi g : Nat) (xs : List Int) (n : Nat) (s : Bool) (e m : Int) (w : World) (h : RAt hi w g xs n s e) (hm : s = true ∨ m < 0 ∨ (xs.length : Int) - n < m) :
    Calls Try.prog 30 #[.pointer (some ⟨g, 0, none⟩), .int .i64 m] w fun en w' => en = .returned (.slice none 0 0) ∧ RAt hi w' g xs xs.length true (fstE e 2) ∧ Upd g w w' := by
  cases s with
  | true => exact bytes_s hi g xs n e m w h
  | false =>
    by_cases c1 : m < 0
    · exact bytes_neg hi g xs n e m w h c1
    · exact bytes_over hi g xs n e m w h c1 (by rcases hm with h | h | h; cases h; exact absurd h c1; exact h)
set_option maxHeartbeats 8000000 in
set_option maxRecDepth 100000 in
theorem byte_ok (hi g : Nat) (xs : List Int) (n : Nat) (e : Int) (w : World) (h : RAt hi w g xs n false e) (hn : n < xs.length) :
    Calls Try.prog 27 #[.pointer (some ⟨g, 0, none⟩)] w fun en w' => en = .returned (.int .u8 (xs.getD n 0)) ∧ RAt hi w' g xs (n + 1) false e ∧ Upd g w w' := by
  have hL : (xs.drop n).take 1 = [xs.getD n 0] := by rw [drop_cons hn 0]; rfl
  have hB := bytes_ok hi g xs n e 1 w h (by omega)
  rw [hL] at hB
  have HB := Aside0.mk hB
  clear h hB hL
  generalize xs.getD n 0 = x at HB ⊢
  go_enter Try.func27, Try.ntmps27
  go_wp2_with (go_at_call 30; refine HB.out.mono ?_; rintro en w1 ⟨A', c', rfl, b1, b2, b3, b4⟩; obtain ⟨ad, rfl, q0⟩ := at_row b2 0 (by simp); rw [Addr.add_zero'] at q0; have q1 : w1.cell? ad = some (.int .u8 x) := q0; have N3 := Aside0.mk b3; have N4 := Aside0.mk b4; clear b1 b2 b3 b4 HB q0)
  go_ret
  exact ⟨rfl, N3.out, N4.out⟩
set_option maxHeartbeats 8000000 in
set_option maxRecDepth 100000 in
theorem byte_short (hi g : Nat) (xs : List Int) (n : Nat) (s : Bool) (e : Int) (w : World) (h : RAt hi w g xs n s e) (hs : s = true ∨ xs.length ≤ n) :
    Calls Try.prog 27 #[.pointer (some ⟨g, 0, none⟩)] w fun en w' => en = .returned (.int .u8 0) ∧ RAt hi w' g xs xs.length true (fstE e 2) ∧ Upd g w w' := by
  have HB := Aside0.mk (bytes_short hi g xs n s e 1 w h (by rcases hs with h | h; exact .inl h; exact .inr (.inr (by omega))))
  clear h
  go_enter Try.func27, Try.ntmps27
  go_wp2_with (go_at_call 30; refine HB.out.mono ?_; rintro en w1 ⟨rfl, b3, b4⟩; have N3 := Aside0.mk b3; have N4 := Aside0.mk b4; clear b3 b4 HB)
  go_ret
  exact ⟨rfl, N3.out, N4.out⟩
set_option maxHeartbeats 8000000 in
set_option maxRecDepth 100000 in
theorem end_any (hi g : Nat) (xs : List Int) (n : Nat) (s : Bool) (e : Int) (w : World) (h : RAt hi w g xs n s e) :
    Calls Try.prog 31 #[.pointer (some ⟨g, 0, none⟩)] w fun en w' => en = .returned (.tuple #[]) ∧ RAt hi w' g xs n s (if n = xs.length then e else fstE e 3) ∧ Upd g w w' := by
  have hn := h.2.1
  have HL := Aside0.mk (left_any hi g xs n s e w h)
  have HN : ∀ W, RAt hi W g xs n s e → Calls Try.prog 28 #[.pointer (some ⟨g, 0, none⟩), .bool (((xs.length : Int) - n) == 0), .int .i64 3] W fun en w' => en = .returned (.tuple #[]) ∧ RAt hi w' g xs n s (if n = xs.length then e else fstE e 3) ∧ Upd g W w' := by
    intro W hW
    by_cases hc : n = xs.length
    · rw [if_pos hc, show (((xs.length : Int) - n) == 0) = true from beq_iff_eq.2 (by omega)]
      exact need_met hi g xs n s e W hW 3
    · rw [if_neg hc, show (((xs.length : Int) - n) == 0) = false from beq_eq_false_iff_ne.2 (by omega)]
      exact need_any hi g xs n s e W hW 3
  generalize (if n = xs.length then e else fstE e 3) = E at HN ⊢
  have HNN := Aside0.mk HN
  clear HN h
  go_enter Try.func31, Try.ntmps31
  go_wp2_with (first | (go_at_call 29; refine HL.out.mono ?_; rintro en w1 ⟨rfl, b1, b2⟩; have N1 := Aside0.mk b1; have N2 := Aside0.mk b2; clear b1 b2 HL) | (go_at_call 28; refine (HNN.out _ N1.out).mono ?_; rintro en w2 ⟨rfl, b1, b2⟩; have N3 := Aside0.mk b1; have N4 := Aside0.mk b2; clear b1 b2 HNN))
  first
  | exact bodyPost_end (results_none rfl _ _ _) rfl ⟨rfl, N3.out, N2.out.trans N4.out⟩
  | exact bodyPost_ret (results_none rfl _ _ _) rfl ⟨rfl, N3.out, N2.out.trans N4.out⟩
end Go.Proofs.Ytimclbhlgblifaa.RCur
end
section
namespace Go.Proofs.Ytimclbhlgblifaa.Cu
open Go.RowKit Go.Proofs.Ytimclbhlgblifaa.E Go.Proofs.Ytimclbhlgblifaa.Cur Go.Proofs.Ytimclbhlgblifaa.RCur Go.Proofs.YtimclbhlgblifaaW.PrintWords Go.Proofs.YtimclbhlgblifaaW.PrintLast Go.Proofs.YtimclbhlgblifaaW.PrintMore
structure Cu where
  xs : List Int
  s : Bool
  e : Int
def Cu.good (c : Cu) : Prop := isBytes c.xs ∧ c.xs.length ≤ 1000000 ∧ (c.s = true → c.xs = [])
def Cu.fail (c : Cu) : Cu := ⟨[], true, fstE c.e 2⟩
def Cu.okB (c : Cu) (n : Int) : Bool := !c.s && decide (0 ≤ n) && decide (n ≤ (c.xs.length : Int))
def Cu.bytesV (c : Cu) (n : Int) : List Int := if c.okB n = true then c.xs.take n.toNat else []
def Cu.bytesS (c : Cu) (n : Int) : Cu := if c.okB n = true then ⟨c.xs.drop n.toNat, c.s, c.e⟩ else c.fail
def Cu.byteV (c : Cu) : Int := (c.bytesV 1).headD 0
def Cu.byteS (c : Cu) : Cu := c.bytesS 1
def Cu.need (c : Cu) (ok : Bool) (f : Int) : Cu := ⟨c.xs, c.s, if c.e = 0 ∧ ok = false then f else c.e⟩
def Cu.fin (c : Cu) : Cu := c.need (decide (c.xs = [])) 3
theorem Cu.good_fail (c : Cu) : c.fail.good := by
  refine ⟨?_, ?_, ?_⟩
  · intro x h; cases h
  · simp [Cu.fail]
  · intro _; rfl
theorem Cu.good_need {c : Cu} (h : c.good) (ok : Bool) (f : Int) : (c.need ok f).good := h
theorem Cu.okB_iff (c : Cu) (n : Int) : c.okB n = true ↔ c.s = false ∧ 0 ≤ n ∧ n ≤ (c.xs.length : Int) := by
  simp [Cu.okB, and_assoc]
theorem Cu.good_bytesS {c : Cu} (h : c.good) (n : Int) : (c.bytesS n).good := by
  unfold Cu.bytesS
  split
  · rename_i hk
    refine ⟨isBytes_drop h.1 _, by have := h.2.1; simp only [List.length_drop]; omega, fun hs => ?_⟩
    rw [((Cu.okB_iff c n).1 hk).1] at hs
    cases hs
  · exact Cu.good_fail c
theorem Cu.good_byteS {c : Cu} (h : c.good) : c.byteS.good := Cu.good_bytesS h 1
theorem Cu.bytes_bytesV {c : Cu} (h : c.good) (n : Int) : isBytes (c.bytesV n) := by
  unfold Cu.bytesV
  split
  · exact isBytes_take h.1 _
  · exact fun x h => by cases h
theorem Cu.byteV_bd {c : Cu} (h : c.good) : 0 ≤ c.byteV ∧ c.byteV < 256 := by
  have := Cu.bytes_bytesV h 1
  unfold Cu.byteV
  cases hv : c.bytesV 1 with
  | nil => simp
  | cons x l => rw [hv] at this; exact this x List.mem_cons_self
theorem Cu.not_okB {c : Cu} {n : Int} (h : ¬ c.okB n = true) : c.s = true ∨ n < 0 ∨ (c.xs.length : Int) < n := by
  rw [Cu.okB_iff] at h
  cases hs : c.s with
  | true => exact .inl rfl
  | false => exact .inr (by have : ¬ (0 ≤ n ∧ n ≤ (c.xs.length : Int)) := fun hh => h ⟨hs, hh.1, hh.2⟩; omega)
def PAt (lo hi : Nat) (w : World) (g : Nat) (c : Cu) : Prop := At lo hi w g c.xs c.s c.e ∧ c.good
theorem PAt.on {lo hi : Nat} {w w' : World} {g : Nat} {c : Cu} {S : Nat → Prop} (h : PAt lo hi w g c) (hk : Kept w w' S) (h1 : ∀ k, S k → k < lo ∨ hi ≤ k) (h2 : ¬ S g) : PAt lo hi w' g c := ⟨h.1.on hk h1 h2, h.2⟩
theorem PAt.below {lo hi : Nat} {w w' : World} {g : Nat} {c : Cu} (h : PAt lo hi w g c) (hb : Below w.heap.size w w') : PAt lo hi w' g c := ⟨h.1.below hb, h.2⟩
theorem p_new (A : Option Addr) (c : Nat) (l : List Int) (w : World) (hr : Kd.C (Kd.int .u8) w A l.length l) (hc : l.length ≤ c) (hs : l.length ≤ 1000000) (hb : isBytes l) :
    Calls Try.prog 19 #[.slice A l.length c] w fun e w' => ∃ g, e = .returned (.pointer (some ⟨g, 0, none⟩)) ∧ w.heap.size ≤ g ∧ PAt w.heap.size g w' g ⟨l, false, 0⟩ ∧ Below w.heap.size w w' ∧ w'.heap.size = g + 1 :=
  (new_any A c l w hr hc hs).mono fun e w' ⟨g, h1, h2, h3, h4, h5⟩ => ⟨g, h1, h2, ⟨h3, hb, hs, fun h => by cases h⟩, h4, h5⟩
theorem p_bytes {lo hi g : Nat} {c : Cu} {w : World} (h : PAt lo hi w g c) (n : Int) :
    Calls Try.prog 23 #[.pointer (some ⟨g, 0, none⟩), .int .i64 n] w fun en w' => ∃ A' c', en = .returned (.slice A' (c.bytesV n).length c') ∧ (c.bytesV n).length ≤ c' ∧ Row w.heap.size w'.heap.size w' A' (c.bytesV n) ∧ PAt lo hi w' g (c.bytesS n) ∧ Upd g w w' := by
  have hg := Cu.good_bytesS h.2 n
  unfold Cu.bytesV PAt
  unfold Cu.bytesS at hg ⊢
  by_cases hk : c.okB n = true
  · rw [if_pos hk] at hg ⊢
    rw [if_pos hk]
    obtain ⟨h1, h2, h3⟩ := (Cu.okB_iff c n).1 hk
    obtain ⟨m, rfl⟩ := Int.eq_ofNat_of_zero_le h2
    have ha := h.1
    rw [h1] at ha
    refine (bytes_ok lo hi g c.xs c.e m w ha (by omega) h.2.2.1).mono ?_
    rintro en w' ⟨A', c', rfl, b1, b2, b3, b4⟩
    refine ⟨A', c', rfl, b1, b2, ⟨?_, hg⟩, b4⟩
    show At lo hi w' g _ c.s c.e
    rw [h1]
    exact b3
  · rw [if_neg hk] at hg ⊢
    rw [if_neg hk]
    refine (Cur.bytes_short lo hi g c.xs c.s c.e n w h.1 (Cu.not_okB hk)).mono ?_
    rintro en w' ⟨rfl, b3, b4⟩
    exact ⟨none, 0, rfl, Nat.le_refl _, Row.nil _ _ _, ⟨b3, hg⟩, b4⟩
theorem one_of {c : Cu} (h : c.okB 1 = true) : ∃ x l, c.xs = x :: l := by
  obtain ⟨_, _, h3⟩ := (Cu.okB_iff c 1).1 h
  cases hx : c.xs with
  | nil => rw [hx] at h3; simp at h3
  | cons x l => exact ⟨x, l, rfl⟩
theorem p_byte {lo hi g : Nat} {c : Cu} {w : World} (h : PAt lo hi w g c) :
    Calls Try.prog 20 #[.pointer (some ⟨g, 0, none⟩)] w fun en w' => en = .returned (.int .u8 c.byteV) ∧ PAt lo hi w' g c.byteS ∧ Upd g w w' := by
  have hg := Cu.good_byteS h.2
  unfold Cu.byteV Cu.bytesV PAt
  unfold Cu.byteS Cu.bytesS at hg ⊢
  by_cases hk : c.okB 1 = true
  · rw [if_pos hk] at hg ⊢
    rw [if_pos hk]
    obtain ⟨x, l, hx⟩ := one_of hk
    have h1 := ((Cu.okB_iff c 1).1 hk).1
    have ha := h.1
    have hl := h.2.2.1
    rw [h1, hx] at ha
    rw [hx] at hl
    refine (byte_ok lo hi g x l c.e w ha hl).mono ?_
    rintro en w' ⟨rfl, b3, b4⟩
    refine ⟨by rw [hx]; rfl, ⟨?_, hg⟩, b4⟩
    show At lo hi w' g (c.xs.drop 1) c.s c.e
    rw [h1, hx]
    exact b3
  · rw [if_neg hk] at hg ⊢
    rw [if_neg hk]
    refine (byte_short lo hi g c.xs c.s c.e w h.1 ?_).mono ?_
    · rcases Cu.not_okB hk with h | h | h
      · exact .inl h
      · omega
      · exact .inr (List.eq_nil_of_length_eq_zero (by omega))
    rintro en w' ⟨rfl, b3, b4⟩
    exact ⟨rfl, ⟨b3, hg⟩, b4⟩
theorem p_need {lo hi g : Nat} {c : Cu} {w : World} (h : PAt lo hi w g c) (ok : Bool) (f : Int) :
    Calls Try.prog 21 #[.pointer (some ⟨g, 0, none⟩), .bool ok, .int .i64 f] w fun en w' => en = .returned (.tuple #[]) ∧ PAt lo hi w' g (c.need ok f) ∧ Upd g w w' :=
  (Cur.need_any lo hi g c.xs c.s c.e ok f w h.1).mono fun en w' ⟨h1, h2, h3⟩ => ⟨h1, ⟨h2, h.2⟩, h3⟩
theorem p_left {lo hi g : Nat} {c : Cu} {w : World} (h : PAt lo hi w g c) :
    Calls Try.prog 22 #[.pointer (some ⟨g, 0, none⟩)] w fun en w' => en = .returned (.int .i64 c.xs.length) ∧ w' = w := Cur.left_any lo hi g c.xs c.s c.e w h.1
theorem p_err {lo hi g : Nat} {c : Cu} {w : World} (h : PAt lo hi w g c) :
    Calls Try.prog 26 #[.pointer (some ⟨g, 0, none⟩)] w fun en w' => en = .returned (.int .i64 c.e) ∧ w' = w := Cur.err_any lo hi g c.xs c.s c.e w h.1
theorem fin_eq (c : Cu) : c.fin = ⟨c.xs, c.s, if c.xs = [] then c.e else fstE c.e 3⟩ := by
  unfold Cu.fin Cu.need fstE
  by_cases hx : c.xs = [] <;> simp [hx]
theorem p_end {lo hi g : Nat} {c : Cu} {w : World} (h : PAt lo hi w g c) :
    Calls Try.prog 25 #[.pointer (some ⟨g, 0, none⟩)] w fun en w' => en = .returned (.tuple #[]) ∧ PAt lo hi w' g c.fin ∧ Upd g w w' := by
  have hg : c.fin.good := Cu.good_need h.2 _ _
  rw [fin_eq] at hg ⊢
  exact (Cur.end_any lo hi g c.xs c.s c.e w h.1).mono fun en w' ⟨h1, h2, h3⟩ => ⟨h1, ⟨h2, hg⟩, h3⟩
def QAt (hi : Nat) (w : World) (g : Nat) (c : Cu) : Prop := ∃ all n, RAt hi w g all n c.s c.e ∧ c.xs = all.drop n ∧ isBytes all ∧ (c.s = true → n = all.length)
theorem QAt.on {hi : Nat} {w w' : World} {g : Nat} {c : Cu} {S : Nat → Prop} (h : QAt hi w g c) (hk : Kept w w' S) (h1 : ∀ k, S k → hi ≤ k) (h2 : ¬ S g) : QAt hi w' g c := by
  obtain ⟨all, n, a1, a2, a3, a4⟩ := h
  exact ⟨all, n, a1.on hk h1 h2, a2, a3, a4⟩
theorem QAt.good {hi : Nat} {w : World} {g : Nat} {c : Cu} (h : QAt hi w g c) : c.good := by
  obtain ⟨all, n, a1, a2, a3, a4⟩ := h
  have := a1.2.2.1
  refine ⟨by rw [a2]; exact isBytes_drop a3 _, by rw [a2, List.length_drop]; omega, fun hs => ?_⟩
  rw [a2, a4 hs, List.drop_length]
theorem QAt.cells {hi : Nat} {w : World} {g : Nat} {c : Cu} (h : QAt hi w g c) : w.cell? ⟨g, 2, none⟩ = some (.bool c.s) ∧ w.cell? ⟨g, 3, none⟩ = some (.int .i64 c.e) := by
  obtain ⟨all, n, ⟨_, _, _, A, c', a1, _⟩, _⟩ := h
  exact ⟨(cells4 a1).1.2.2.1, (cells4 a1).1.2.2.2⟩
theorem QAt.lt {hi : Nat} {w : World} {g : Nat} {c : Cu} (h : QAt hi w g c) : g < w.heap.size := by
  obtain ⟨all, n, a1, _⟩ := h
  exact a1.lt
theorem QAt.hi {hi : Nat} {w : World} {g : Nat} {c : Cu} (h : QAt hi w g c) : hi ≤ g := by
  obtain ⟨all, n, a1, _⟩ := h
  exact a1.1
theorem q_new {w : World} {A : Option Addr} {c : Nat} {l : List Int} (hr : Row 0 w.heap.size w A l) (hc : l.length ≤ c) (hs : l.length ≤ 1000000) (hb : isBytes l) {W : World} (hk : Kept w W (fun _ => False)) :
    QAt w.heap.size (W.alloc (.cells #[.slice A l.length c, .int .i64 0, .bool false, .int .i64 0] 60)) W.heap.size ⟨l, false, 0⟩ :=
  ⟨l, 0, ⟨hk.1, Nat.zero_le _, hs, A, c, blk_new _ _, hc, hr.on ((hk.alloc _).mono fun _ h => h.elim)⟩, rfl, hb, fun h => by cases h⟩
theorem q_left {hi g : Nat} {c : Cu} {w : World} (h : QAt hi w g c) :
    Calls Try.prog 29 #[.pointer (some ⟨g, 0, none⟩)] w fun en w' => en = .returned (.int .i64 c.xs.length) ∧ QAt hi w' g c ∧ Upd g w w' := by
  obtain ⟨all, n, a1, a2, a3, a4⟩ := h
  have hn := a1.2.1
  have e1 : ((all.length : Int) - n) = (c.xs.length : Int) := by rw [a2, List.length_drop]; omega
  refine (RCur.left_any hi g all n c.s c.e w a1).mono ?_
  rintro en w' ⟨rfl, b1, b2⟩
  exact ⟨by rw [e1], ⟨all, n, b1, a2, a3, a4⟩, b2⟩
theorem q_need {hi g : Nat} {c : Cu} {w : World} (h : QAt hi w g c) (ok : Bool) (f : Int) :
    Calls Try.prog 28 #[.pointer (some ⟨g, 0, none⟩), .bool ok, .int .i64 f] w fun en w' => en = .returned (.tuple #[]) ∧ QAt hi w' g (c.need ok f) ∧ Upd g w w' := by
  obtain ⟨all, n, a1, a2, a3, a4⟩ := h
  cases ok with
  | true =>
    refine (RCur.need_met hi g all n c.s c.e w a1 f).mono ?_
    rintro en w' ⟨rfl, b1, b2⟩
    refine ⟨rfl, ⟨all, n, ?_, a2, a3, a4⟩, b2⟩
    simpa [Cu.need] using b1
  | false =>
    refine (RCur.need_any hi g all n c.s c.e w a1 f).mono ?_
    rintro en w' ⟨rfl, b1, b2⟩
    refine ⟨rfl, ⟨all, n, ?_, a2, a3, a4⟩, b2⟩
    simpa [Cu.need, fstE] using b1
theorem q_bytes {hi g : Nat} {c : Cu} {w : World} (h : QAt hi w g c) (n : Int) :
    Calls Try.prog 30 #[.pointer (some ⟨g, 0, none⟩), .int .i64 n] w fun en w' => ∃ A' c', en = .returned (.slice A' (c.bytesV n).length c') ∧ (c.bytesV n).length ≤ c' ∧ Row 0 hi w' A' (c.bytesV n) ∧ QAt hi w' g (c.bytesS n) ∧ Upd g w w' := by
  obtain ⟨all, k, a1, a2, a3, a4⟩ := h
  have hn := a1.2.1
  have hl : c.xs.length = all.length - k := by rw [a2, List.length_drop]
  unfold Cu.bytesV Cu.bytesS
  by_cases hk : c.okB n = true
  · rw [if_pos hk, if_pos hk]
    obtain ⟨h1, h2, h3⟩ := (Cu.okB_iff c n).1 hk
    obtain ⟨m, rfl⟩ := Int.eq_ofNat_of_zero_le h2
    have ha := a1
    rw [h1] at ha
    refine (RCur.bytes_ok hi g all k c.e m w ha (by omega)).mono ?_
    rintro en w' ⟨A', c', rfl, b1, b2, b3, b4⟩
    rw [← a2] at b1 b2
    refine ⟨A', c', by rw [a2]; rfl, b1, b2, ⟨all, k + m, ?_, ?_, a3, ?_⟩, b4⟩
    · show RAt hi w' g all (k + m) c.s c.e
      rw [h1]
      exact b3
    · show c.xs.drop m = _
      rw [a2, List.drop_drop]
    · intro hs
      rw [show c.s = true from hs] at h1
      cases h1
  · rw [if_neg hk, if_neg hk]
    refine (RCur.bytes_short hi g all k c.s c.e n w a1 ?_).mono ?_
    · rcases Cu.not_okB hk with h | h | h
      · exact .inl h
      · exact .inr (.inl h)
      · exact .inr (.inr (by omega))
    rintro en w' ⟨rfl, b3, b4⟩
    exact ⟨none, 0, rfl, Nat.le_refl _, Row.nil _ _ _, ⟨all, all.length, b3, (List.drop_length).symm, a3, fun _ => rfl⟩, b4⟩
theorem q_byte {hi g : Nat} {c : Cu} {w : World} (h : QAt hi w g c) :
    Calls Try.prog 27 #[.pointer (some ⟨g, 0, none⟩)] w fun en w' => en = .returned (.int .u8 c.byteV) ∧ QAt hi w' g c.byteS ∧ Upd g w w' := by
  obtain ⟨all, k, a1, a2, a3, a4⟩ := h
  have hn := a1.2.1
  have hl : c.xs.length = all.length - k := by rw [a2, List.length_drop]
  unfold Cu.byteV Cu.byteS Cu.bytesV Cu.bytesS
  by_cases hk : c.okB 1 = true
  · rw [if_pos hk, if_pos hk]
    obtain ⟨h1, h2, h3⟩ := (Cu.okB_iff c 1).1 hk
    have ha := a1
    rw [h1] at ha
    refine (RCur.byte_ok hi g all k c.e w ha (by omega)).mono ?_
    rintro en w' ⟨rfl, b3, b4⟩
    have e1 : all.getD k 0 = (c.xs.take (1 : Int).toNat).headD 0 := by
      rw [a2, drop_cons (show k < all.length by omega) 0]
      rfl
    refine ⟨by rw [e1], ⟨all, k + 1, ?_, ?_, a3, ?_⟩, b4⟩
    · show RAt hi w' g all (k + 1) c.s c.e
      rw [h1]
      exact b3
    · show c.xs.drop 1 = _
      rw [a2, List.drop_drop]
    · intro hs
      rw [show c.s = true from hs] at h1
      cases h1
  · rw [if_neg hk, if_neg hk]
    refine (RCur.byte_short hi g all k c.s c.e w a1 ?_).mono ?_
    · rcases Cu.not_okB hk with h | h | h
      · exact .inl h
      · omega
      · exact .inr (by omega)
    rintro en w' ⟨rfl, b3, b4⟩
    exact ⟨rfl, ⟨all, all.length, b3, (List.drop_length).symm, a3, fun _ => rfl⟩, b4⟩
theorem q_end {hi g : Nat} {c : Cu} {w : World} (h : QAt hi w g c) :
    Calls Try.prog 31 #[.pointer (some ⟨g, 0, none⟩)] w fun en w' => en = .returned (.tuple #[]) ∧ QAt hi w' g c.fin ∧ Upd g w w' := by
  obtain ⟨all, k, a1, a2, a3, a4⟩ := h
  have hn := a1.2.1
  have e1 : (c.xs = []) = (k = all.length) := by
    rw [a2]
    exact propext ⟨fun h => by have := congrArg List.length h; rw [List.length_drop] at this; simp at this; omega, fun h => by rw [h, List.drop_length]⟩
  rw [fin_eq]
  refine (RCur.end_any hi g all k c.s c.e w a1).mono ?_
  rintro en w' ⟨rfl, b1, b2⟩
  refine ⟨rfl, ⟨all, k, ?_, a2, a3, a4⟩, b2⟩
  show RAt hi w' g all k c.s (if c.xs = [] then c.e else fstE c.e 3)
  by_cases hc : k = all.length
  · rw [if_pos (e1.mpr hc)]
    rw [if_pos hc] at b1
    exact b1
  · rw [if_neg (fun hh => hc (e1.mp hh))]
    rw [if_neg hc] at b1
    exact b1
end Go.Proofs.Ytimclbhlgblifaa.Cu
end
section
namespace Go.Proofs.Ytimclbhlgblifaa.Same
open Go.RowKit Go.Proofs.Ytimclbhlgblifaa.P Go.Proofs.Ytimclbhlgblifaa.E Go.Proofs.YtimclbhlgblifaaW.PrintWords Go.Proofs.YtimclbhlgblifaaW.PrintLast Go.Proofs.YtimclbhlgblifaaW.PrintMore
theorem good_code {m : Msg} (h : goodM m) {v : Int} (hv : 0 ≤ v ∧ v < 256) : goodM { m with code := v } := by
  obtain ⟨h1, h2⟩ := h
  refine ⟨?_, h2⟩
  simp only [okM, u8B, u16B, Bool.and_eq_true, decide_eq_true_eq] at h1 ⊢
  simp only [h1, hv, and_self, true_and]
theorem set_code {W : World} {cx : Array Value} {m : Msg} (h : IsMsg W cx m) {v : Int} (hv : 0 ≤ v ∧ v < 256) : IsMsg W (cx.setIfInBounds 0 (.int .u8 v)) { m with code := v } := by
  obtain ⟨A12, c12, A13, c13, A14, c14, A15, c15, A21, c21, rfl, ok, h12, h13, h14, h15, h21⟩ := h
  exact ⟨A12, c12, A13, c13, A14, c14, A15, c15, A21, c21, by simp, good_code ok hv, h12, h13, h14, h15, h21⟩
theorem good_fail {m : Msg} (h : goodM m) {v : Int} (hv : 0 ≤ v ∧ v < 256) : goodM { m with fail := v } := by
  obtain ⟨h1, h2⟩ := h
  refine ⟨?_, h2⟩
  simp only [okM, u8B, u16B, Bool.and_eq_true, decide_eq_true_eq] at h1 ⊢
  simp only [h1, hv, and_self, true_and]
theorem good_mei {m : Msg} (h : goodM m) {v : Int} (hv : 0 ≤ v ∧ v < 256) : goodM { m with mei := v } := by
  obtain ⟨h1, h2⟩ := h
  refine ⟨?_, h2⟩
  simp only [okM, u8B, u16B, Bool.and_eq_true, decide_eq_true_eq] at h1 ⊢
  simp only [h1, hv, and_self, true_and]
theorem set_mei {W : World} {cx : Array Value} {m : Msg} (h : IsMsg W cx m) {v : Int} (hv : 0 ≤ v ∧ v < 256) : IsMsg W (cx.setIfInBounds 16 (.int .u8 v)) { m with mei := v } := by
  obtain ⟨A12, c12, A13, c13, A14, c14, A15, c15, A21, c21, rfl, ok, h12, h13, h14, h15, h21⟩ := h
  exact ⟨A12, c12, A13, c13, A14, c14, A15, c15, A21, c21, by simp, good_mei ok hv, h12, h13, h14, h15, h21⟩
theorem good_kind {m : Msg} (h : goodM m) {v : Int} (hv : 0 ≤ v ∧ v < 256) : goodM { m with kind := v } := by
  obtain ⟨h1, h2⟩ := h
  refine ⟨?_, h2⟩
  simp only [okM, u8B, u16B, Bool.and_eq_true, decide_eq_true_eq] at h1 ⊢
  simp only [h1, hv, and_self, true_and]
theorem set_kind {W : World} {cx : Array Value} {m : Msg} (h : IsMsg W cx m) {v : Int} (hv : 0 ≤ v ∧ v < 256) : IsMsg W (cx.setIfInBounds 17 (.int .u8 v)) { m with kind := v } := by
  obtain ⟨A12, c12, A13, c13, A14, c14, A15, c15, A21, c21, rfl, ok, h12, h13, h14, h15, h21⟩ := h
  exact ⟨A12, c12, A13, c13, A14, c14, A15, c15, A21, c21, by simp, good_kind ok hv, h12, h13, h14, h15, h21⟩
theorem good_level {m : Msg} (h : goodM m) {v : Int} (hv : 0 ≤ v ∧ v < 256) : goodM { m with level := v } := by
  obtain ⟨h1, h2⟩ := h
  refine ⟨?_, h2⟩
  simp only [okM, u8B, u16B, Bool.and_eq_true, decide_eq_true_eq] at h1 ⊢
  simp only [h1, hv, and_self, true_and]
theorem set_level {W : World} {cx : Array Value} {m : Msg} (h : IsMsg W cx m) {v : Int} (hv : 0 ≤ v ∧ v < 256) : IsMsg W (cx.setIfInBounds 18 (.int .u8 v)) { m with level := v } := by
  obtain ⟨A12, c12, A13, c13, A14, c14, A15, c15, A21, c21, rfl, ok, h12, h13, h14, h15, h21⟩ := h
  exact ⟨A12, c12, A13, c13, A14, c14, A15, c15, A21, c21, by simp, good_level ok hv, h12, h13, h14, h15, h21⟩
theorem good_more {m : Msg} (h : goodM m) {v : Int} (hv : 0 ≤ v ∧ v < 256) : goodM { m with more := v } := by
  obtain ⟨h1, h2⟩ := h
  refine ⟨?_, h2⟩
  simp only [okM, u8B, u16B, Bool.and_eq_true, decide_eq_true_eq] at h1 ⊢
  simp only [h1, hv, and_self, true_and]
theorem set_more {W : World} {cx : Array Value} {m : Msg} (h : IsMsg W cx m) {v : Int} (hv : 0 ≤ v ∧ v < 256) : IsMsg W (cx.setIfInBounds 19 (.int .u8 v)) { m with more := v } := by
  obtain ⟨A12, c12, A13, c13, A14, c14, A15, c15, A21, c21, rfl, ok, h12, h13, h14, h15, h21⟩ := h
  exact ⟨A12, c12, A13, c13, A14, c14, A15, c15, A21, c21, by simp, good_more ok hv, h12, h13, h14, h15, h21⟩
theorem good_next {m : Msg} (h : goodM m) {v : Int} (hv : 0 ≤ v ∧ v < 256) : goodM { m with next := v } := by
  obtain ⟨h1, h2⟩ := h
  refine ⟨?_, h2⟩
  simp only [okM, u8B, u16B, Bool.and_eq_true, decide_eq_true_eq] at h1 ⊢
  simp only [h1, hv, and_self, true_and]
theorem set_next {W : World} {cx : Array Value} {m : Msg} (h : IsMsg W cx m) {v : Int} (hv : 0 ≤ v ∧ v < 256) : IsMsg W (cx.setIfInBounds 20 (.int .u8 v)) { m with next := v } := by
  obtain ⟨A12, c12, A13, c13, A14, c14, A15, c15, A21, c21, rfl, ok, h12, h13, h14, h15, h21⟩ := h
  exact ⟨A12, c12, A13, c13, A14, c14, A15, c15, A21, c21, by simp, good_next ok hv, h12, h13, h14, h15, h21⟩
theorem good_data {m : Msg} (h : goodM m) {l : List Int} (hg : isBytes l) : goodM { m with data := l } := by
  obtain ⟨h1, h2⟩ := h
  refine ⟨?_, h2⟩
  simp only [okM, u8B, u16B, Bool.and_eq_true, decide_eq_true_eq, List.all_eq_true] at h1 ⊢
  exact ⟨⟨h1.1.1, fun x hx => hg x hx⟩, h1.2⟩
theorem set_data {W : World} {cx : Array Value} {m : Msg} (h : IsMsg W cx m) {A : Option Addr} {n : Nat} {l : List Int} (hn : l.length ≤ n) (hg : isBytes l) (hr : Kd.C (Kd.int .u8) W A l.length l) : IsMsg W (cx.setIfInBounds 14 (.slice A l.length n)) { m with data := l } := by
  obtain ⟨A12, c12, A13, c13, A14, c14, A15, c15, A21, c21, rfl, ok, h12, h13, h14, h15, h21⟩ := h
  exact ⟨A12, c12, A13, c13, A, n, A15, c15, A21, c21, by simp, good_data ok hg, h12, h13, ⟨hr, hn⟩, h15, h21⟩
def NilL (cx : Array Value) : Prop := ∀ (i : Nat) A n, (i = 15 ∨ i = 21) → cx[i]? = some (.slice A 0 n) → A = none ∧ n = 0
theorem NilL.set {cx : Array Value} (h : NilL cx) {i : Nat} (hi : i ≠ 15 ∧ i ≠ 21) {v : Value} : NilL (cx.setIfInBounds i v) := by
  intro j A n hj e
  refine h j A n hj ?_
  rwa [Array.getElem?_setIfInBounds_ne (by omega)] at e
theorem NilL.put {cx : Array Value} (h : NilL cx) {i : Nat} {v : Value} (hv : ∀ A n, v = .slice A 0 n → A = none ∧ n = 0) : NilL (cx.setIfInBounds i v) := by
  intro j A n hj e
  by_cases hij : i = j
  · subst hij
    rw [Array.getElem?_setIfInBounds_self] at e
    split at e
    · exact hv A n (Option.some.inj e)
    · cases e
  · exact h j A n hj (by rwa [Array.getElem?_setIfInBounds_ne hij] at e)
def Zip {α β : Type} (R : α → β → Prop) (l : List α) (k : List β) : Prop := l.length = k.length ∧ ∀ (j : Nat) a b, l[j]? = some a → k[j]? = some b → R a b
theorem Zip.nil {α β : Type} (R : α → β → Prop) : Zip R [] [] := ⟨rfl, fun j a b h => by simp at h⟩
theorem Zip.imp {α β : Type} {R R' : α → β → Prop} {l : List α} {k : List β} (h : Zip R l k) (hi : ∀ a b, R a b → R' a b) : Zip R' l k := ⟨h.1, fun j a b ha hb => hi a b (h.2 j a b ha hb)⟩
theorem Zip.get {α β : Type} {R : α → β → Prop} {l : List α} {k : List β} (h : Zip R l k) {j : Nat} (hj : j < l.length) (hj' : j < k.length) : R l[j] k[j] := h.2 j _ _ (List.getElem?_eq_getElem hj) (List.getElem?_eq_getElem hj')
theorem Zip.mem {α β : Type} {R : α → β → Prop} {l : List α} {k : List β} (h : Zip R l k) : ∀ b ∈ k, ∃ a, R a b := fun b hb => by
  obtain ⟨j, hj, rfl⟩ := List.mem_iff_getElem.1 hb
  have hl := h.1
  exact ⟨_, h.get (show j < l.length by omega) hj⟩
theorem Zip.snoc {α β : Type} {R : α → β → Prop} {l : List α} {k : List β} (h : Zip R l k) {a : α} {b : β} (hab : R a b) : Zip R (l ++ [a]) (k ++ [b]) := by
  refine ⟨by simp [h.1], fun j x y hx hy => ?_⟩
  have hl := h.1
  by_cases hj : j < l.length
  · rw [List.getElem?_append_left hj] at hx
    rw [List.getElem?_append_left (by omega)] at hy
    exact h.2 j x y hx hy
  · rw [List.getElem?_append_right (by omega)] at hx
    rw [List.getElem?_append_right (by omega)] at hy
    have e : j - l.length = 0 := by
      by_cases h0 : j - l.length = 0
      · exact h0
      · rw [List.getElem?_eq_none (by simp; omega)] at hx; cases hx
    have e2 : j - k.length = 0 := by omega
    rw [e] at hx
    rw [e2] at hy
    simp at hx hy
    subst hx
    subst hy
    exact hab
end Go.Proofs.Ytimclbhlgblifaa.Same
end
section
namespace Go.Proofs.Ytimclbhlgblifaa.PS
open Go.RowKit Go.Proofs.Ytimclbhlgblifaa.P Go.Proofs.Ytimclbhlgblifaa.E Go.Proofs.Ytimclbhlgblifaa.Cur Go.Proofs.Ytimclbhlgblifaa.RCur Go.Proofs.Ytimclbhlgblifaa.Cu Go.Proofs.Ytimclbhlgblifaa.Same Go.Proofs.YtimclbhlgblifaaW.PrintWords Go.Proofs.YtimclbhlgblifaaW.PrintLast Go.Proofs.YtimclbhlgblifaaW.PrintMore
structure St (w0 : World) (gr g gm : Nat) (w : World) (c : Cu) (m : Msg) : Prop where
  b : Below w0.heap.size w0 w
  cur : ∃ lo hi, PAt lo hi w g c ∧ (gm < lo ∨ hi ≤ gm) ∧ (gr < lo ∨ hi ≤ gr)
  cx : ∃ cx, w.heap[gm]? = some (.cells cx 30 (0, 0)) ∧ ∀ W', Kept w W' (fun k => k = g ∨ k = gm ∨ k = gr) → IsMsg W' cx m
  res : w.heap[gr]? = some (.cells zeroC 30 (0, 0))
  h1 : w0.heap.size ≤ g ∧ w0.heap.size ≤ gm ∧ w0.heap.size ≤ gr
  h2 : gm ≠ g ∧ gr ≠ g ∧ gr ≠ gm
  nl : ∃ cx, w.heap[gm]? = some (.cells cx 30 (0, 0)) ∧ NilL cx
section
variable {w0 w w' : World} {gr g gm : Nat} {c c' : Cu} {m m' : Msg}
theorem St.upd (h : St w0 gr g gm w c m) (k : Upd g w w') (hc : ∃ lo hi, PAt lo hi w' g c' ∧ (gm < lo ∨ hi ≤ gm) ∧ (gr < lo ∨ hi ≤ gr)) : St w0 gr g gm w' c' m := by
  obtain ⟨cx, a1, a2⟩ := h.cx
  refine ⟨h.b.trans (k.below h.h1.1 h.b.size), hc, ⟨cx, blk_kept a1 k.kept h.h2.1, fun W' hk => a2 W' ((k.kept.mono fun j hj => .inl hj).then_ hk (fun j hj => .inl hj))⟩, blk_kept h.res k.kept h.h2.2.1, h.h1, h.h2, by obtain ⟨cy, n1, n2⟩ := h.nl; exact ⟨cy, blk_kept n1 k.kept h.h2.1, n2⟩⟩
theorem St.good (h : St w0 gr g gm w c m) : c.good := by
  obtain ⟨lo, hi, a, _⟩ := h.cur
  exact a.2
theorem St.msg (h : St w0 gr g gm w c m) : goodM m := by
  obtain ⟨cx, a1, a2⟩ := h.cx
  exact (a2 w (Kept.refl _ _)).good
theorem St.below (h : St w0 gr g gm w c m) (hb : Below w.heap.size w w') : St w0 gr g gm w' c m := by
  obtain ⟨cx, a1, a2⟩ := h.cx
  refine ⟨h.b.trans (hb.mono h.b.size), ?_, ⟨cx, blk_below a1 hb, fun W' hk => a2 W' ((Kept.of_below hb _).then_ hk (fun j hj => .inl hj))⟩, blk_below h.res hb, h.h1, h.h2, by obtain ⟨cy, n1, n2⟩ := h.nl; exact ⟨cy, blk_below n1 hb, n2⟩⟩
  obtain ⟨lo, hi, a, s1, s2⟩ := h.cur
  exact ⟨lo, hi, a.below hb, s1, s2⟩
theorem St.byte (h : St w0 gr g gm w c m) : Calls Try.prog 20 #[.pointer (some ⟨g, 0, none⟩)] w fun en w' => en = .returned (.int .u8 c.byteV) ∧ St w0 gr g gm w' c.byteS m := by
  obtain ⟨lo, hi, hc, s1, s2⟩ := h.cur
  refine (p_byte hc).mono ?_
  rintro en w' ⟨rfl, b1, b2⟩
  exact ⟨rfl, h.upd b2 ⟨lo, hi, b1, s1, s2⟩⟩
theorem St.bytes (h : St w0 gr g gm w c m) (n : Int) : Calls Try.prog 23 #[.pointer (some ⟨g, 0, none⟩), .int .i64 n] w fun en w' => ∃ A' c', en = .returned (.slice A' (c.bytesV n).length c') ∧ (c.bytesV n).length ≤ c' ∧ (∀ W', Kept w' W' (fun k => k = g ∨ k = gm ∨ k = gr) → Kd.C (Kd.int .u8) W' A' (c.bytesV n).length (c.bytesV n)) ∧ St w0 gr g gm w' (c.bytesS n) m := by
  obtain ⟨cx, a1, a2⟩ := h.cx
  have lm := blk_lt a1
  have lr := blk_lt h.res
  obtain ⟨lo, hi, hc, s1, s2⟩ := h.cur
  refine (p_bytes hc n).mono ?_
  rintro en w' ⟨A', c', rfl, b1, b2, b3, b4⟩
  refine ⟨A', c', rfl, b1, fun W' hk => (b2.on (hk.mono fun j hj => ?_)).now, h.upd b4 ⟨lo, hi, b3, s1, s2⟩⟩
  have lg := hc.1.lt
  rcases hj with rfl | rfl | rfl <;> exact .inl (by omega)
theorem St.need (h : St w0 gr g gm w c m) (ok : Bool) (f : Int) : Calls Try.prog 21 #[.pointer (some ⟨g, 0, none⟩), .bool ok, .int .i64 f] w fun en w' => en = .returned (.tuple #[]) ∧ St w0 gr g gm w' (c.need ok f) m := by
  obtain ⟨lo, hi, hc, s1, s2⟩ := h.cur
  refine (p_need hc ok f).mono ?_
  rintro en w' ⟨rfl, b1, b2⟩
  exact ⟨rfl, h.upd b2 ⟨lo, hi, b1, s1, s2⟩⟩
theorem St.fin (h : St w0 gr g gm w c m) : Calls Try.prog 25 #[.pointer (some ⟨g, 0, none⟩)] w fun en w' => en = .returned (.tuple #[]) ∧ St w0 gr g gm w' c.fin m := by
  obtain ⟨lo, hi, hc, s1, s2⟩ := h.cur
  refine (p_end hc).mono ?_
  rintro en w' ⟨rfl, b1, b2⟩
  exact ⟨rfl, h.upd b2 ⟨lo, hi, b1, s1, s2⟩⟩
theorem St.left (h : St w0 gr g gm w c m) : Calls Try.prog 22 #[.pointer (some ⟨g, 0, none⟩)] w fun en w' => en = .returned (.int .i64 c.xs.length) ∧ St w0 gr g gm w' c m := by
  obtain ⟨lo, hi, hc, s1, s2⟩ := h.cur
  refine (p_left hc).mono ?_
  rintro en w' ⟨rfl, rfl⟩
  exact ⟨rfl, h⟩
theorem St.err (h : St w0 gr g gm w c m) : Calls Try.prog 26 #[.pointer (some ⟨g, 0, none⟩)] w fun en w' => en = .returned (.int .i64 c.e) ∧ St w0 gr g gm w' c m := by
  obtain ⟨lo, hi, hc, s1, s2⟩ := h.cur
  refine (p_err hc).mono ?_
  rintro en w' ⟨rfl, rfl⟩
  exact ⟨rfl, h⟩
theorem St.put (h : St w0 gr g gm w c m) (i : Nat) (v : Value) (hi : i ≠ 15 ∧ i ≠ 21) (hm : ∀ W' cx, Kept w W' (fun k => k = g ∨ k = gm ∨ k = gr) → IsMsg W' cx m → IsMsg W' (cx.setIfInBounds i v) m') : St w0 gr g gm (w.setCell ⟨gm, i, none⟩ v) c m' := by
  obtain ⟨cx, a1, a2⟩ := h.cx
  have hk : Kept w (w.setCell ⟨gm, i, none⟩ v) (fun k => k = gm) := (Kept.refl w (fun k => k = gm)).setCell (p := ⟨gm, i, none⟩) (.inl rfl) v
  refine ⟨below_set h.b h.h1.2.1, ?_, ⟨_, blk_put a1 i v rfl, fun W' k => ?_⟩, blk_kept h.res hk h.h2.2.2, h.h1, h.h2, by obtain ⟨cy, n1, n2⟩ := h.nl; exact ⟨_, blk_put n1 i v rfl, n2.set hi⟩⟩
  · obtain ⟨lo, hi, a, s1, s2⟩ := h.cur
    exact ⟨lo, hi, a.on hk (fun k e => by rw [e]; exact s1) (fun e => h.h2.1 e.symm), s1, s2⟩
  · have k2 : Kept w W' (fun k => k = g ∨ k = gm ∨ k = gr) := (hk.mono fun j hj => .inr (.inl hj)).then_ k (fun j hj => .inl hj)
    exact hm W' cx k2 (a2 W' k2)
theorem St.put_mei (h : St w0 gr g gm w c m) {v : Int} (hv : 0 ≤ v ∧ v < 256) : St w0 gr g gm (w.setCell ⟨gm, 16, none⟩ (.int .u8 v)) c { m with mei := v } :=
  h.put 16 _ (by decide) fun W' cx _ hm => set_mei hm hv
theorem St.put_kind (h : St w0 gr g gm w c m) {v : Int} (hv : 0 ≤ v ∧ v < 256) : St w0 gr g gm (w.setCell ⟨gm, 17, none⟩ (.int .u8 v)) c { m with kind := v } :=
  h.put 17 _ (by decide) fun W' cx _ hm => set_kind hm hv
theorem St.put_level (h : St w0 gr g gm w c m) {v : Int} (hv : 0 ≤ v ∧ v < 256) : St w0 gr g gm (w.setCell ⟨gm, 18, none⟩ (.int .u8 v)) c { m with level := v } :=
  h.put 18 _ (by decide) fun W' cx _ hm => set_level hm hv
theorem St.put_more (h : St w0 gr g gm w c m) {v : Int} (hv : 0 ≤ v ∧ v < 256) : St w0 gr g gm (w.setCell ⟨gm, 19, none⟩ (.int .u8 v)) c { m with more := v } :=
  h.put 19 _ (by decide) fun W' cx _ hm => set_more hm hv
theorem St.put_next (h : St w0 gr g gm w c m) {v : Int} (hv : 0 ≤ v ∧ v < 256) : St w0 gr g gm (w.setCell ⟨gm, 20, none⟩ (.int .u8 v)) c { m with next := v } :=
  h.put 20 _ (by decide) fun W' cx _ hm => set_next hm hv
theorem St.put_data (h : St w0 gr g gm w c m) {A : Option Addr} {n : Nat} {l : List Int} (hn : l.length ≤ n) (hg : isBytes l) (hr : ∀ W', Kept w W' (fun k => k = g ∨ k = gm ∨ k = gr) → Kd.C (Kd.int .u8) W' A l.length l) : St w0 gr g gm (w.setCell ⟨gm, 14, none⟩ (.slice A l.length n)) c { m with data := l } :=
  h.put 14 _ (by decide) fun W' cx k hm => set_data hm hn hg (hr W' k)
theorem St.at_mei (h : St w0 gr g gm w c m) : w.cell? ⟨gm, 16, none⟩ = some (.int .u8 m.mei) ∧ w.frozen? ⟨gm, 16, none⟩ = false := by
  obtain ⟨cx, a1, a2⟩ := h.cx
  exact ⟨bx_mei a1 (a2 w (Kept.refl _ _)), blk_frozen a1 16⟩
theorem St.at_kind (h : St w0 gr g gm w c m) : w.cell? ⟨gm, 17, none⟩ = some (.int .u8 m.kind) ∧ w.frozen? ⟨gm, 17, none⟩ = false := by
  obtain ⟨cx, a1, a2⟩ := h.cx
  exact ⟨bx_kind a1 (a2 w (Kept.refl _ _)), blk_frozen a1 17⟩
theorem St.at_level (h : St w0 gr g gm w c m) : w.cell? ⟨gm, 18, none⟩ = some (.int .u8 m.level) ∧ w.frozen? ⟨gm, 18, none⟩ = false := by
  obtain ⟨cx, a1, a2⟩ := h.cx
  exact ⟨bx_level a1 (a2 w (Kept.refl _ _)), blk_frozen a1 18⟩
theorem St.at_more (h : St w0 gr g gm w c m) : w.cell? ⟨gm, 19, none⟩ = some (.int .u8 m.more) ∧ w.frozen? ⟨gm, 19, none⟩ = false := by
  obtain ⟨cx, a1, a2⟩ := h.cx
  exact ⟨bx_more a1 (a2 w (Kept.refl _ _)), blk_frozen a1 19⟩
theorem St.at_next (h : St w0 gr g gm w c m) : w.cell? ⟨gm, 20, none⟩ = some (.int .u8 m.next) ∧ w.frozen? ⟨gm, 20, none⟩ = false := by
  obtain ⟨cx, a1, a2⟩ := h.cx
  exact ⟨bx_next a1 (a2 w (Kept.refl _ _)), blk_frozen a1 20⟩
theorem St.at_data (h : St w0 gr g gm w c m) : ∃ A n, w.cell? ⟨gm, 14, none⟩ = some (.slice A m.data.length n) ∧ w.frozen? ⟨gm, 14, none⟩ = false := by
  obtain ⟨cx, a1, a2⟩ := h.cx
  obtain ⟨A12, c12, A13, c13, A14, c14, A15, c15, A21, c21, l, _⟩ := (a2 w (Kept.refl _ _)).lists
  exact ⟨A14, c14, (blk_cell a1 14).trans l.2.2.1, blk_frozen a1 14⟩
theorem St.row (h : St w0 gr g gm w c m) : ∃ cx, w.heap[gm]? = some (.cells cx 30 (0, 0)) ∧ IsMsg w cx m ∧ ∀ w', w'.heap[gr]? = some (.cells cx 30 (0, 0)) → Up1 gr w w' → IsMsg w' cx m ∧ Below w0.heap.size w0 w' := by
  obtain ⟨cx, a1, a2⟩ := h.cx
  exact ⟨cx, a1, a2 w (Kept.refl _ _), fun w' _ hu => ⟨a2 w' (hu.kept.mono fun j hj => .inr (.inr hj)), h.b.trans (hu.below h.h1.2.2 h.b.size)⟩⟩
theorem St.held (h : St w0 gr g gm w c m) : Held w0 [(gr, zeroC)] w := ⟨h.b, fun p hp => by obtain rfl := List.mem_singleton.1 hp; exact ⟨h.h1.2.2, h.res⟩, List.pairwise_singleton _ _⟩
theorem St.held2 (h : St w0 gr g gm w c m) : ∃ cx, Held w0 [(gr, zeroC), (gm, cx)] w ∧ cx.size = 22 ∧ ∀ w', Up1 gr w w' → IsMsg w' cx m := by
  obtain ⟨cx, a1, a2⟩ := h.cx
  refine ⟨cx, ⟨h.b, fun p hp => ?_, ?_⟩, (a2 w (Kept.refl _ _)).size, fun w' hu => a2 w' (hu.kept.mono fun j hj => .inr (.inr hj))⟩
  · rcases List.mem_cons.1 hp with rfl | hp
    · exact ⟨h.h1.2.2, h.res⟩
    · obtain rfl := List.mem_singleton.1 hp
      exact ⟨h.h1.2.1, a1⟩
  · refine List.pairwise_cons.2 ⟨fun q hq => ?_, List.pairwise_singleton _ _⟩
    obtain rfl := List.mem_singleton.1 hq
    exact h.h2.2.2
end
theorem zero_nil : NilL zeroC := by
  intro i A n hi e
  rcases hi with rfl | rfl <;> exact ⟨(Value.slice.inj (Option.some.inj e)).1.symm, (Value.slice.inj (Option.some.inj e)).2.2.symm⟩
structure Nw (w0 : World) (gr g : Nat) (w : World) (c : Cu) : Prop where
  b : Below w0.heap.size w0 w
  cur : ∃ lo, PAt lo g w g c ∧ gr < lo
  res : w.heap[gr]? = some (.cells zeroC 30 (0, 0))
  h1 : w0.heap.size ≤ g ∧ w0.heap.size ≤ gr
theorem Nw.good {w0 w : World} {gr g : Nat} {c : Cu} (h : Nw w0 gr g w c) : c.good := by
  obtain ⟨lo, a, _⟩ := h.cur
  exact a.2
theorem Nw.first {w0 w1 w : World} {gr g : Nat} {c : Cu} (hg : gr = w0.heap.size) (hk : w1.heap[gr]? = some (.cells zeroC 30 (0, 0))) (hb : Below w0.heap.size w0 w1) (h1 : w1.heap.size ≤ g) (hc : PAt w1.heap.size g w g c) (h2 : Below w1.heap.size w1 w) : Nw w0 gr g w c :=
  ⟨hb.trans (h2.mono hb.size), ⟨_, hc, blk_lt hk⟩, blk_below hk h2, Nat.le_trans hb.size h1, by omega⟩
theorem Nw.byte {w0 w : World} {gr g : Nat} {c : Cu} (h : Nw w0 gr g w c) : Calls Try.prog 20 #[.pointer (some ⟨g, 0, none⟩)] w fun en w' => en = .returned (.int .u8 c.byteV) ∧ Nw w0 gr g w' c.byteS := by
  obtain ⟨lo, hc, s1⟩ := h.cur
  refine (p_byte hc).mono ?_
  rintro en w' ⟨rfl, b1, b2⟩
  have hlg : gr ≠ g := fun e => by
    obtain ⟨⟨h2, A, n, h3, h4, h5⟩, _⟩ := hc
    have := h.res
    rw [e, h3] at this
    injection this with this
    injection this with _ this _
    exact absurd this (by decide)
  exact ⟨rfl, h.b.trans (b2.below h.h1.1 h.b.size), ⟨lo, b1, s1⟩, blk_kept h.res b2.kept hlg, h.h1⟩
theorem Nw.new {w0 w w' : World} {gr g gm : Nat} {c : Cu} {m : Msg} {cx : Array Value} (h : Nw w0 gr g w c) (hg : gm = w.heap.size) (hk : w'.heap[gm]? = some (.cells cx 30 (0, 0))) (hb : Below w.heap.size w w') (M : ∀ W, IsMsg W cx m) (nl : NilL cx) : St w0 gr g gm w' c m := by
  obtain ⟨lo, hc, s1⟩ := h.cur
  have lg := hc.1.lt
  have lr := blk_lt h.res
  have hlg : gr ≠ g := fun e => by
    obtain ⟨⟨h2, A, n, h3, h4, h5⟩, _⟩ := hc
    have := h.res
    rw [e, h3] at this
    injection this with this
    injection this with _ this _
    exact absurd this (by decide)
  exact ⟨h.b.trans (hb.mono h.b.size), ⟨lo, g, hc.below hb, .inr (by omega), .inl s1⟩, ⟨cx, hk, fun W' _ => M W'⟩, blk_below h.res hb, ⟨h.h1.1, by have := h.b.size; omega, h.h1.2⟩, ⟨by omega, hlg, by omega⟩, ⟨cx, hk, nl⟩⟩
end Go.Proofs.Ytimclbhlgblifaa.PS
end
section
namespace Go.Proofs.Ytimclbhlgblifaa.Same
open Go.RowKit Go.Proofs.Ytimclbhlgblifaa.P Go.Proofs.Ytimclbhlgblifaa.E Go.Proofs.Ytimclbhlgblifaa.Same Go.Proofs.YtimclbhlgblifaaW.PrintWords Go.Proofs.YtimclbhlgblifaaW.PrintLast Go.Proofs.YtimclbhlgblifaaW.PrintMore
structure RawO where
  f0 : Int
  A : Option Addr
  n : Nat
  c : Nat
def kRawO : Kd RawO where
  sz := 2
  E := []
  K := fun _ x cs => cs = [.int .u8 x.f0, .slice x.A x.n x.c]
  M := fun _ _ _ x cs => cs = [.int .u8 x.f0, .slice x.A x.n x.c]
  K_len := fun h => by rw [h]; rfl
  K_one := fun h u hu => by
    rw [h] at hu
    simp only [List.mem_cons, List.not_mem_nil, or_false] at hu
    rcases hu with rfl | rfl <;> rfl
  K_below := fun _ h => h
  K_of_M := fun h => h
  M_mono := fun _ h => h
  M_bound := fun h => h
  M_move := fun _ h => h
  M_lower := fun _ h => h
def FitsO (W : World) (r : RawO) (o : S43) : Prop := r.f0 = o.f0 ∧ r.n = o.f1.length ∧ o.f1.length ≤ r.c ∧ Kd.C (Kd.int .u8) W r.A o.f1.length o.f1
def goodO (o : S43) : Prop := (0 ≤ o.f0 ∧ o.f0 < 256) ∧ isBytes o.f1
theorem zipO_C {W : World} {A : Option Addr} {n : Nat} {raws : List RawO} {os : List S43} (h : Kd.C kRawO W A n raws) (z : Zip (FitsO W) raws os) : Kd.C k43 W A n os := by
  obtain ⟨h1, h2, h3⟩ := h
  have hl := z.1
  refine ⟨by rw [← hl]; exact h1, h2, fun hn => ?_⟩
  obtain ⟨ad, e, hc⟩ := h3 hn
  refine ⟨ad, e, fun j p hp => ?_⟩
  obtain ⟨hj, rfl⟩ := List.getElem?_eq_some_iff.1 hp
  have hj' : j < raws.length := by rw [hl]; exact hj
  obtain ⟨c, hc1, hc2, hc3⟩ := hc j raws[j] (List.getElem?_eq_getElem hj')
  have hf : FitsO W raws[j] os[j] := z.get hj' hj
  obtain ⟨e1f0, e2, e3, e4⟩ := hf
  refine ⟨c, hc1, ?_, hc3⟩
  rw [show c = [.int .u8 raws[j].f0, .slice raws[j].A raws[j].n raws[j].c] from hc2, e1f0, e2]
  exact k43_mk W _ e3 e4
theorem set_objects {W : World} {cx : Array Value} {m : Msg} (h : IsMsg W cx m) {A : Option Addr} {n : Nat} {l : List S43} (hn : l.length ≤ n) (hg : ∀ o ∈ l, goodO o) (hr : Kd.C k43 W A l.length l) : IsMsg W (cx.setIfInBounds 21 (.slice A l.length n)) { m with objects := l } := by
  obtain ⟨A12, c12, A13, c13, A14, c14, A15, c15, A21, c21, rfl, ok, h12, h13, h14, h15, h21⟩ := h
  refine ⟨A12, c12, A13, c13, A14, c14, A15, c15, A, n, by simp, ?_, h12, h13, h14, h15, ⟨hr, hn⟩⟩
  obtain ⟨ok1, ok2, ok3, ok4⟩ := ok
  refine ⟨?_, ok2, ok3, fun o ho => (hg o ho).1⟩
  simp only [okM, u8B, u16B, Bool.and_eq_true, decide_eq_true_eq, List.all_eq_true] at ok1 ⊢
  exact ⟨ok1.1, fun o ho x hx => (hg o ho).2 x hx⟩
end Go.Proofs.Ytimclbhlgblifaa.Same
end
section
namespace Go.Proofs.Ytimclbhlgblifaa.PS
open Go.RowKit Go.Proofs.Ytimclbhlgblifaa.P Go.Proofs.Ytimclbhlgblifaa.E Go.Proofs.Ytimclbhlgblifaa.Cur Go.Proofs.Ytimclbhlgblifaa.RCur Go.Proofs.Ytimclbhlgblifaa.Cu Go.Proofs.Ytimclbhlgblifaa.Same Go.Proofs.YtimclbhlgblifaaW.PrintWords Go.Proofs.YtimclbhlgblifaaW.PrintLast Go.Proofs.YtimclbhlgblifaaW.PrintMore
structure StO (w0 : World) (gr g gm B1 : Nat) (w : World) (c : Cu) (m : Msg) (raws : List RawO) (os : List S43) (v : Value) : Prop where
  b : Below w0.heap.size w0 w
  cur : ∃ lo hi, PAt lo hi w g c ∧ (gm < lo ∨ hi ≤ gm) ∧ (gr < lo ∨ hi ≤ gr)
  cx : ∃ cx, w.heap[gm]? = some (.cells (cx.setIfInBounds 21 v) 30 (0, 0)) ∧ ∀ W', Kept w W' (fun k => k = g ∨ k = gm ∨ k = gr ∨ v.ownBlock = some k) → IsMsg W' cx m
  res : w.heap[gr]? = some (.cells zeroC 30 (0, 0))
  h1 : w0.heap.size ≤ g ∧ w0.heap.size ≤ gm ∧ w0.heap.size ≤ gr
  h2 : gm ≠ g ∧ gr ≠ g ∧ gr ≠ gm
  h3 : g < B1 ∧ gm < B1 ∧ gr < B1 ∧ B1 ≤ w.heap.size
  row : Kd.R kRawO 43 w w0.heap.size (fun k => B1 ≤ k) v raws
  zip : Zip (fun r o => goodO o ∧ ∀ W', Kept w W' (fun k => k = g ∨ k = gm ∨ k = gr ∨ v.ownBlock = some k) → FitsO W' r o) raws os
  nl : ∃ cx, w.heap[gm]? = some (.cells cx 30 (0, 0)) ∧ NilL cx
  nv : raws = [] → v = .slice none 0 0
section
variable {w0 w w' : World} {gr g gm B1 : Nat} {c c' : Cu} {m m' : Msg} {raws : List RawO} {os : List S43} {v : Value}
theorem own_ne {k : Nat} (h : Kd.R kRawO 43 w w0.heap.size (fun k => B1 ≤ k) v raws) (hk : k < B1) : v.ownBlock ≠ some k := fun e => by have := h.1 k e; omega
theorem StO.start (h : St w0 gr g gm w c m) (he : m.objects = []) : StO w0 gr g gm w.heap.size w c m [] [] (.slice none 0 0) := by
  obtain ⟨cx, a1, a2⟩ := h.cx
  obtain ⟨cy, n1, n2⟩ := h.nl
  have e0 : cy = cx := by
    rw [a1] at n1
    injection n1 with n1
    injection n1 with n1 _ _
    exact n1.symm
  subst e0
  obtain ⟨A12, c12, A13, c13, A14, c14, A15, c15, A21, c21, l, _⟩ := (a2 w (Kept.refl _ _)).lists
  have lc : cy[21]? = some (.slice A21 m.objects.length c21) := l.2.2.2.2
  have hs := (a2 w (Kept.refl _ _)).size
  rw [he] at lc
  obtain ⟨rfl, rfl⟩ := n2 21 _ _ (by decide) lc
  have e1 : cy.setIfInBounds 21 (.slice none 0 0) = cy := by
    apply Array.ext_getElem?
    intro i
    by_cases hi : 21 = i
    · subst hi
      rw [lc]
      simp [hs]
    · rw [Array.getElem?_setIfInBounds_ne hi]
  refine ⟨h.b, h.cur, ⟨cy, by rw [e1]; exact a1, fun W' hk => a2 W' (hk.mono fun j hj => ?_)⟩, h.res, h.h1, h.h2, ⟨(by obtain ⟨lo, hi, a, _⟩ := h.cur; exact a.1.lt), blk_lt a1, blk_lt h.res, Nat.le_refl _⟩, Kd.R_nil _ _ _ _ _, Zip.nil _, ⟨cy, a1, n2⟩, fun _ => rfl⟩
  rcases hj with hj | hj | hj | hj
  · exact .inl hj
  · exact .inr (.inl hj)
  · exact .inr (.inr hj)
  · simp [Value.ownBlock] at hj
theorem StO.upd (h : StO w0 gr g gm B1 w c m raws os v) (k : Upd g w w') (hc : ∃ lo hi, PAt lo hi w' g c' ∧ (gm < lo ∨ hi ≤ gm) ∧ (gr < lo ∨ hi ≤ gr)) : StO w0 gr g gm B1 w' c' m raws os v := by
  obtain ⟨cx, a1, a2⟩ := h.cx
  have kk : Kept w w' (fun k => k = g ∨ k = gm ∨ k = gr ∨ v.ownBlock = some k) := k.kept.mono fun j hj => .inl hj
  refine ⟨h.b.trans (k.below h.h1.1 h.b.size), hc, ⟨cx, blk_kept a1 k.kept h.h2.1, fun W' hk => a2 W' (kk.then_ hk (fun j hj => .inl hj))⟩, blk_kept h.res k.kept h.h2.2.1, h.h1, h.h2, ⟨h.h3.1, h.h3.2.1, h.h3.2.2.1, Nat.le_trans h.h3.2.2.2 k.kept.1⟩, ?_, h.zip.imp fun _ _ hz => ⟨hz.1, fun W' hk => hz.2 W' (kk.then_ hk (fun j hj => .inl hj))⟩, by obtain ⟨cy, n1, n2⟩ := h.nl; exact ⟨cy, blk_kept n1 k.kept h.h2.1, n2⟩, h.nv⟩
  refine Kd.R_mono (Kd.R_move (Kd.R_bound h.row) fun j hj => k.kept.2 j hj.2.2.1 fun e => ?_) fun j hj => hj.1
  have := hj.1
  have := h.h3.1
  omega
theorem StO.good (h : StO w0 gr g gm B1 w c m raws os v) : c.good := by
  obtain ⟨lo, hi, a, _⟩ := h.cur
  exact a.2
theorem StO.byte (h : StO w0 gr g gm B1 w c m raws os v) : Calls Try.prog 20 #[.pointer (some ⟨g, 0, none⟩)] w fun en w' => en = .returned (.int .u8 c.byteV) ∧ StO w0 gr g gm B1 w' c.byteS m raws os v := by
  obtain ⟨lo, hi, hc, s1, s2⟩ := h.cur
  refine (p_byte hc).mono ?_
  rintro en w' ⟨rfl, b1, b2⟩
  exact ⟨rfl, h.upd b2 ⟨lo, hi, b1, s1, s2⟩⟩
theorem StO.bytes (h : StO w0 gr g gm B1 w c m raws os v) (n : Int) : Calls Try.prog 23 #[.pointer (some ⟨g, 0, none⟩), .int .i64 n] w fun en w' => ∃ A' c', en = .returned (.slice A' (c.bytesV n).length c') ∧ (c.bytesV n).length ≤ c' ∧ (∀ W', Kept w' W' (fun k => k = g ∨ k = gm ∨ k = gr ∨ v.ownBlock = some k) → Kd.C (Kd.int .u8) W' A' (c.bytesV n).length (c.bytesV n)) ∧ StO w0 gr g gm B1 w' (c.bytesS n) m raws os v := by
  obtain ⟨cx, a1, a2⟩ := h.cx
  have lm := blk_lt a1
  have lr := blk_lt h.res
  have lv : ∀ k, v.ownBlock = some k → k < w.heap.size ∧ B1 ≤ k := fun k hk => by have := (Kd.R_bound h.row).1 k hk; exact ⟨this.2.2.1, this.1⟩
  obtain ⟨lo, hi, hc, s1, s2⟩ := h.cur
  refine (p_bytes hc n).mono ?_
  rintro en w' ⟨A', c', rfl, b1, b2, b3, b4⟩
  refine ⟨A', c', rfl, b1, fun W' hk => (b2.on (hk.mono fun j hj => ?_)).now, h.upd b4 ⟨lo, hi, b3, s1, s2⟩⟩
  have lg := hc.1.lt
  rcases hj with rfl | rfl | rfl | hj
  · exact .inl (by omega)
  · exact .inl (by omega)
  · exact .inl (by omega)
  · exact .inl (lv j hj).1
theorem StO.need (h : StO w0 gr g gm B1 w c m raws os v) (ok : Bool) (f : Int) : Calls Try.prog 21 #[.pointer (some ⟨g, 0, none⟩), .bool ok, .int .i64 f] w fun en w' => en = .returned (.tuple #[]) ∧ StO w0 gr g gm B1 w' (c.need ok f) m raws os v := by
  obtain ⟨lo, hi, hc, s1, s2⟩ := h.cur
  refine (p_need hc ok f).mono ?_
  rintro en w' ⟨rfl, b1, b2⟩
  exact ⟨rfl, h.upd b2 ⟨lo, hi, b1, s1, s2⟩⟩
theorem StO.at_list (h : StO w0 gr g gm B1 w c m raws os v) : w.cell? ⟨gm, 21, none⟩ = some v ∧ w.frozen? ⟨gm, 21, none⟩ = false := by
  obtain ⟨cx, a1, a2⟩ := h.cx
  have hs := (a2 w (Kept.refl _ _)).size
  exact ⟨(blk_cell a1 21).trans (by simp [hs]), blk_frozen a1 21⟩
theorem StO.drew (h : StO w0 gr g gm B1 w c m raws os v) : StO w0 gr g gm B1 w.drew c m raws os v := ⟨h.b.drew, by obtain ⟨lo, hi, a, s⟩ := h.cur; exact ⟨lo, hi, a.on (S := fun _ => False) (Kept.refl w _).drew (fun _ h => h.elim) (fun h => h), s⟩, h.cx, h.res, h.h1, h.h2, h.h3, Kd.R_move h.row (fun _ _ => rfl), h.zip, h.nl, h.nv⟩
theorem StO.at_list' (h : StO w0 gr g gm B1 w c m raws os v) {w1 : World} (G : w.grownBy w1 v.ownBlock) : w1.cell? ⟨gm, 21, none⟩ = some v ∧ w1.frozen? ⟨gm, 21, none⟩ = false := by
  obtain ⟨cx, a1, a2⟩ := h.cx
  have hs := (a2 w (Kept.refl _ _)).size
  have nm := own_ne h.row h.h3.2.1
  have a3 := blk_kept a1 ((Kept.refl w (fun k => v.ownBlock = some k)).of_grown G (fun k hk => .inl hk)) (fun e => nm e)
  exact ⟨(blk_cell a3 21).trans (by simp [hs]), blk_frozen a3 21⟩
theorem StO.push (h : StO w0 gr g gm B1 w c m raws os v) {r : RawO} {o : S43} (hg : goodO o) (hz : ∀ W', Kept w W' (fun k => k = g ∨ k = gm ∨ k = gr ∨ v.ownBlock = some k) → FitsO W' r o) {v1 : Value} {w1 : World} (R1 : Kd.R kRawO 43 w1 w0.heap.size (fun k => B1 ≤ k) v1 (raws ++ [r])) (B1_ : Below w0.heap.size w0 w1) (G : w.grownBy w1 v.ownBlock) (hv : v1.ownBlock = v.ownBlock ∨ ∃ b, v1.ownBlock = some b ∧ w.heap.size ≤ b) :
    StO w0 gr g gm B1 (w1.setCell ⟨gm, 21, none⟩ v1) c m (raws ++ [r]) (os ++ [o]) v1 := by
  obtain ⟨cx, a1, a2⟩ := h.cx
  have k1 : Kept w w1 (fun k => v.ownBlock = some k) := (Kept.refl w _).of_grown G (fun k hk => .inl hk)
  have k2 : Kept w1 (w1.setCell ⟨gm, 21, none⟩ v1) (fun k => k = gm) := (Kept.refl w1 (fun k => k = gm)).setCell (p := ⟨gm, 21, none⟩) (.inl rfl) v1
  have nm := own_ne h.row h.h3.2.1
  have ng := own_ne h.row h.h3.1
  have nr := own_ne h.row h.h3.2.2.1
  have kk : Kept w (w1.setCell ⟨gm, 21, none⟩ v1) (fun k => k = g ∨ k = gm ∨ k = gr ∨ v.ownBlock = some k) := (k1.mono fun j hj => .inr (.inr (.inr hj))).then_ k2 (fun j hj => .inl (.inr (.inl hj)))
  have a3 := blk_kept a1 k1 (fun e => nm e)
  have turn : ∀ W', Kept (w1.setCell ⟨gm, 21, none⟩ v1) W' (fun k => k = g ∨ k = gm ∨ k = gr ∨ v1.ownBlock = some k) → Kept w W' (fun k => k = g ∨ k = gm ∨ k = gr ∨ v.ownBlock = some k) := fun W' hk => kk.then_ hk (fun j hj => by
    rcases hj with hj | hj | hj | hj
    · exact .inl (.inl hj)
    · exact .inl (.inr (.inl hj))
    · exact .inl (.inr (.inr (.inl hj)))
    · rcases hv with e | ⟨b, e, hb⟩
      · exact .inl (.inr (.inr (.inr (e ▸ hj))))
      · rw [e] at hj
        have := Option.some.inj hj
        exact .inr (by omega))
  have hs := (a2 w (Kept.refl _ _)).size
  refine ⟨below_set B1_ h.h1.2.1, ?_, ⟨cx, ?_, fun W' hk => a2 W' (turn W' hk)⟩, blk_kept (blk_kept h.res k1 (fun e => nr e)) k2 h.h2.2.2, h.h1, h.h2, ⟨h.h3.1, h.h3.2.1, h.h3.2.2.1, Nat.le_trans h.h3.2.2.2 kk.1⟩, ?_, ?_, ?_, fun e => by simp at e⟩
  · obtain ⟨lo, hi, a, s1, s2⟩ := h.cur
    have hh := a.1.1
    exact ⟨lo, hi, (a.on k1 (fun k e => .inr (by have := h.row.1 k e; have := h.h3; omega)) (fun e => ng e)).on k2 (fun k e => by rw [e]; exact s1) (fun e => h.h2.1 e.symm), s1, s2⟩
  · have := blk_put a3 21 v1 rfl
    rw [this]
    simp
  · refine Kd.R_mono (Kd.R_move (Kd.R_bound R1) fun j hj => k2.2 j hj.2.2.1 fun e => ?_) fun j hj => hj.1
    have h6 := hj.1
    have h7 := h.h3.2.1
    simp only at e
    omega
  · exact (h.zip.imp fun _ _ hz => ⟨hz.1, fun W' hk => hz.2 W' (turn W' hk)⟩).snoc ⟨hg, fun W' hk => hz W' (turn W' hk)⟩
  · obtain ⟨cy, n1, n2⟩ := h.nl
    refine ⟨_, blk_put (blk_kept n1 k1 (fun e => nm e)) 21 v1 rfl, n2.put fun A n e => ?_⟩
    obtain ⟨A', n', e', hn', _⟩ := Kd.R_reads R1
    rw [e'] at e
    injection e with e1 e2 e3
    simp at e2
theorem StO.close (h : StO w0 gr g gm B1 w c m raws os v) : St w0 gr g gm w c { m with objects := os } := by
  obtain ⟨cx, a1, a2⟩ := h.cx
  obtain ⟨A, n, rfl, hn, _⟩ := Kd.R_reads h.row
  have hl := h.zip.1
  have own : ∀ W', Kept w W' (fun k => k = g ∨ k = gm ∨ k = gr) → Kept w W' (fun k => k = g ∨ k = gm ∨ k = gr ∨ (Value.slice A raws.length n).ownBlock = some k) := fun W' hk => hk.mono fun j hj => by
    rcases hj with hj | hj | hj
    · exact .inl hj
    · exact .inr (.inl hj)
    · exact .inr (.inr (.inl hj))
  refine ⟨h.b, h.cur, ⟨_, a1, fun W' hk => ?_⟩, h.res, h.h1, h.h2, h.nl⟩
  have hC := Kd.C_kept_own h.row (S := (fun k => k = g ∨ k = gm ∨ k = gr)) (fun k hk => by have := h.h3; omega) W' hk
  have hz : Zip (FitsO W') raws os := h.zip.imp fun _ _ z => z.2 W' (own W' hk)
  rw [hl] at hC
  have := set_objects (a2 W' (own W' hk)) (A := A) (n := n) (l := os) (by rw [← hl]; exact hn) (fun o ho => by obtain ⟨r, hr, _⟩ := h.zip.mem o ho; exact hr) (zipO_C hC hz)
  rw [hl]
  exact this
end
end Go.Proofs.Ytimclbhlgblifaa.PS
end
section
namespace Go.Proofs.Ytimclbhlgblifaa.Code
open Go.RowKit Go.Maps Go.Proofs.YtimclbhlgblifaaW.PrintWords Go.Proofs.YtimclbhlgblifaaW.PrintLast Go.Proofs.YtimclbhlgblifaaW.PrintMore
def setD (q : IntKind) (l : List Int) : DataW Unit := l.foldl (fun D x => D.put (.int q x) (.lit (.bool true))) (.map [])
theorem setD_snoc (q : IntKind) (l : List Int) (x : Int) : setD q (l ++ [x]) = (setD q l).put (.int q x) (.lit (.bool true)) := by unfold setD; rw [List.foldl_append]; rfl
theorem fold_at (q : IntKind) (c : Int) (l : List Int) : ∀ (D : DataW Unit) (b : Bool), IsMap D → D.atKey (.int q c) (.lit (.bool false)) = .lit (.bool b) → (l.foldl (fun D x => D.put (.int q x) (.lit (.bool true))) D).atKey (.int q c) (.lit (.bool false)) = .lit (.bool (b || l.contains c)) := by
  induction l with
  | nil => intro D b _ h; simpa using h
  | cons x l ih =>
    intro D b hD h
    rw [List.foldl_cons]
    by_cases e : x = c
    · subst e
      rw [ih _ true (hD.put _ _) (atKey_put_same hD (by trivial) _ _)]
      simp
    · rw [ih _ b (hD.put _ _) ((atKey_put_other (fun h => e (by injection h with _ h; exact h.symm)) _ _).trans h)]
      have : (c == x) = false := by rw [beq_eq_false_iff_ne]; exact fun h => e h.symm
      have h2 : ¬ c = x := fun h => e h.symm
      simp [h2]
theorem setD_at (q : IntKind) (l : List Int) (c : Int) : (setD q l).atKey (.int q c) (.lit (.bool false)) = .lit (.bool (l.contains c)) := by
  unfold setD
  rw [fold_at q c l _ false ⟨[], rfl⟩ rfl, Bool.false_or]
theorem plainElem_bool_inv {P : Program} {e : TypeId} (he : P.underlying e = some .bool) {v : Value} {z : DataW Unit × List MemPlace} (h : plainElem P e v = some z) : ∃ b, v = .bool b ∧ z = (.lit (.bool b), []) := by
  unfold plainElem at h
  rw [he] at h
  cases v <;> simp_all
theorem lawu8 : Keyed Try.prog 5 := int_keyed Try.underlying5
theorem zeroBu8 (w : World) : (zeroValue 4).run Try.prog w = .ok (.bool false) w := by kernel_rfl
theorem look_u8 {w : World} {b n : Nat} {l : List Int} (h : w.ownsMap Try.prog 5 (plainElem Try.prog 4) b n (setD .u8 l)) (c : Int) (hc : (Lit.int .u8 c).wf = true) :
    (Instr.lookup 76 (.map (some b)) (.int .u8 c) false).run Try.prog w = .ok (.bool (l.contains c)) w := by
  obtain ⟨vv, ps, hrun, hRv⟩ := h.lookup lawu8 Try.underlying76 (zeroBu8 _) (plainElem_bool Try.underlying4 false) (keyOf_int_mk Try.underlying5 hc)
  rw [setD_at] at hRv
  obtain ⟨bb, rfl, hbb⟩ := plainElem_bool_inv Try.underlying4 hRv
  simp only [Prod.mk.injEq, DataW.lit.injEq, Lit.bool.injEq] at hbb
  rw [hbb.1]
  exact hrun
theorem gate_op_ {P : Program} {ops : Array Oper} {rest : List Oper} {op : Oper} {a : Act} {w : World} {Q : Exit → Act → World → Prop} {u : Op} (_ : op.op = u) (h : wpList P ops Q (op :: rest) a w) : wpList P ops Q (op :: rest) a w := h
theorem wpList_insert_own {H : Type} {P : Program} (w : World) {ops : Array Oper} {rest : List Oper} {o : Oper} {a : Act} {Q : Exit → Act → World → Prop}
    (hg : o.guard = none) (m x v : Operand) (t : TypeId) (hop : o.op = Op.insert t m x v)
    (k e : TypeId) (K : Keyed P k) (ht : P.underlying t = some (.map k e)) (R : Value → Option (DataW H × List MemPlace)) (b n : Nat) (D : DataW H)
    (hm : a.eval m = .map (some b)) (hown : w.ownsMap P k R b n D) (hn : n < maxLen) (key val : Value) (kl : Lit) (hx : a.eval x = key) (hv : a.eval v = val) (hkey : keyOf P k key = some kl)
    (d : DataW H) (ps : List MemPlace) (hval : R val = some (d, ps))
    (hK : ∀ w', w'.ownsMap P k R b (n + 1) (D.put kl d) → w.grownBy w' (some b) → wpList P ops Q rest (a.put o.dst undef) w') :
    wpList P ops Q (o :: rest) a w := by
  refine wpList_plain hg fun K' hK' => ?_
  obtain ⟨w', hrun, r1, r2⟩ := hown.update K ht hn hkey hval
  unfold Oper.wp
  simp [execOp, hop, hm, hx, hv, hrun, Result.andThen]
  exact hK' _ _ (hK w' r1 r2)
def levelL : List Int := [1, 2, 3, 129, 130, 131]
def levB (c : Int) : Bool := levelL.contains c
set_option maxHeartbeats 800000 in
set_option maxRecDepth 100000 in
theorem level_any (c : Int) (w : World) (hc : (Lit.int .u8 c).wf = true) :
    Calls Try.prog 38 #[.int .u8 c] w fun e w' => e = .returned (.bool (levB c)) ∧ Below w.heap.size w w' := by
  have HW := Aside0.mk hc
  clear hc
  have hmm := @run_makeMap Try.prog
  have O : Aside0 ((w.alloc (.map #[] 0)).ownsMap Try.prog 5 (plainElem (H := Unit) Try.prog 4) w.heap.size 0 (setD .u8 [])) := ⟨World.ownsMap_made _ _ _ _⟩
  have HB := Aside0.mk ((Below.refl w.heap.size w).alloc (Nat.le_refl _) (.map #[] 0))
  go_enter Try.func38, Try.ntmps38
  go_wp2_with (first | ((with_reducible refine gate_op_ (u := .insert 76 (.tmp 3) (.const (.int .u8 1)) (.const (.bool true))) rfl ?_); refine wpList_insert_own _ rfl _ _ _ 76 rfl 5 4 lawu8 Try.underlying76 _ w.heap.size 0 _ rfl O.out (by unfold maxLen; omega) _ _ _ rfl rfl (keyOf_int_mk Try.underlying5 (by decide)) _ [] (plainElem_bool Try.underlying4 _) ?_; intro w1 o_ g_; rw [← setD_snoc] at o_; have n0_ := Aside0.mk o_; have n1_ := Aside0.mk (HB.out.grown g_ HB.out.size (fun j hj => by cases hj; exact Nat.le_refl _)); clear O HB o_ g_; have O := n0_; have HB := n1_; clear n0_ n1_) | ((with_reducible refine gate_op_ (u := .insert 76 (.tmp 3) (.const (.int .u8 2)) (.const (.bool true))) rfl ?_); refine wpList_insert_own _ rfl _ _ _ 76 rfl 5 4 lawu8 Try.underlying76 _ w.heap.size 1 _ rfl O.out (by unfold maxLen; omega) _ _ _ rfl rfl (keyOf_int_mk Try.underlying5 (by decide)) _ [] (plainElem_bool Try.underlying4 _) ?_; intro w1 o_ g_; rw [← setD_snoc] at o_; have n0_ := Aside0.mk o_; have n1_ := Aside0.mk (HB.out.grown g_ HB.out.size (fun j hj => by cases hj; exact Nat.le_refl _)); clear O HB o_ g_; have O := n0_; have HB := n1_; clear n0_ n1_) | ((with_reducible refine gate_op_ (u := .insert 76 (.tmp 3) (.const (.int .u8 3)) (.const (.bool true))) rfl ?_); refine wpList_insert_own _ rfl _ _ _ 76 rfl 5 4 lawu8 Try.underlying76 _ w.heap.size 2 _ rfl O.out (by unfold maxLen; omega) _ _ _ rfl rfl (keyOf_int_mk Try.underlying5 (by decide)) _ [] (plainElem_bool Try.underlying4 _) ?_; intro w1 o_ g_; rw [← setD_snoc] at o_; have n0_ := Aside0.mk o_; have n1_ := Aside0.mk (HB.out.grown g_ HB.out.size (fun j hj => by cases hj; exact Nat.le_refl _)); clear O HB o_ g_; have O := n0_; have HB := n1_; clear n0_ n1_) | ((with_reducible refine gate_op_ (u := .insert 76 (.tmp 3) (.const (.int .u8 129)) (.const (.bool true))) rfl ?_); refine wpList_insert_own _ rfl _ _ _ 76 rfl 5 4 lawu8 Try.underlying76 _ w.heap.size 3 _ rfl O.out (by unfold maxLen; omega) _ _ _ rfl rfl (keyOf_int_mk Try.underlying5 (by decide)) _ [] (plainElem_bool Try.underlying4 _) ?_; intro w1 o_ g_; rw [← setD_snoc] at o_; have n0_ := Aside0.mk o_; have n1_ := Aside0.mk (HB.out.grown g_ HB.out.size (fun j hj => by cases hj; exact Nat.le_refl _)); clear O HB o_ g_; have O := n0_; have HB := n1_; clear n0_ n1_) | ((with_reducible refine gate_op_ (u := .insert 76 (.tmp 3) (.const (.int .u8 130)) (.const (.bool true))) rfl ?_); refine wpList_insert_own _ rfl _ _ _ 76 rfl 5 4 lawu8 Try.underlying76 _ w.heap.size 4 _ rfl O.out (by unfold maxLen; omega) _ _ _ rfl rfl (keyOf_int_mk Try.underlying5 (by decide)) _ [] (plainElem_bool Try.underlying4 _) ?_; intro w1 o_ g_; rw [← setD_snoc] at o_; have n0_ := Aside0.mk o_; have n1_ := Aside0.mk (HB.out.grown g_ HB.out.size (fun j hj => by cases hj; exact Nat.le_refl _)); clear O HB o_ g_; have O := n0_; have HB := n1_; clear n0_ n1_) | ((with_reducible refine gate_op_ (u := .insert 76 (.tmp 3) (.const (.int .u8 131)) (.const (.bool true))) rfl ?_); refine wpList_insert_own _ rfl _ _ _ 76 rfl 5 4 lawu8 Try.underlying76 _ w.heap.size 5 _ rfl O.out (by unfold maxLen; omega) _ _ _ rfl rfl (keyOf_int_mk Try.underlying5 (by decide)) _ [] (plainElem_bool Try.underlying4 _) ?_; intro w1 o_ g_; rw [← setD_snoc] at o_; have n0_ := Aside0.mk o_; have n1_ := Aside0.mk (HB.out.grown g_ HB.out.size (fun j hj => by cases hj; exact Nat.le_refl _)); clear O HB o_ g_; have O := n0_; have HB := n1_; clear n0_ n1_; have hrun : (Instr.lookup 76 (.map (some w.heap.size)) (.int .u8 c) false).run Try.prog w1 = .ok (.bool (levB c)) w1 := look_u8 O.out c HW.out))
  go_ret
  exact ⟨by first | rfl | (simp; done), HB.out⟩
end Go.Proofs.Ytimclbhlgblifaa.Code
end
section
namespace Go.Proofs.Ytimclbhlgblifaa.Mei
open Go.RowKit Go.Proofs.Ytimclbhlgblifaa.P Go.Proofs.Ytimclbhlgblifaa.E Go.Proofs.Ytimclbhlgblifaa.Cur Go.Proofs.Ytimclbhlgblifaa.Cu Go.Proofs.Ytimclbhlgblifaa.Same Go.Proofs.Ytimclbhlgblifaa.Code Go.Proofs.YtimclbhlgblifaaW.PrintWords Go.Proofs.YtimclbhlgblifaaW.PrintLast Go.Proofs.YtimclbhlgblifaaW.PrintMore
def objs : Nat → Cu → Cu × List S43
  | 0, c => (c, [])
  | k + 1, c => ((objs k (c.byteS.byteS.bytesS c.byteS.byteV)).1, ⟨c.byteV, c.byteS.byteS.bytesV c.byteS.byteV⟩ :: (objs k (c.byteS.byteS.bytesS c.byteS.byteV)).2)
def ans (c : Cu) (m : Msg) : Cu × Msg :=
  let c1 := c.byteS
  let c2 := c1.need (levB c.byteV) 6
  let c3 := c2.byteS
  let c4 := c3.need (c2.byteV == 0 || c2.byteV == 255) 6
  let c5 := c4.byteS
  let c6 := c5.need (c2.byteV != 0 || c4.byteV == 0) 6
  let c7 := c6.byteS
  let c8 := c7.need (m.kind != 4 || c6.byteV == 1) 5
  ((objs c6.byteV.toNat c8).1, { m with level := c.byteV, more := c2.byteV, next := c4.byteV, objects := (objs c6.byteV.toNat c8).2 })
def body (dir code : Int) (bs : List Int) : Cu × Msg :=
  let c0 : Cu := ⟨bs, false, 0⟩
  let m0 : Msg := { zeroM with code := code, mei := c0.byteV }
  let c2 := c0.byteS.need (c0.byteV == 13 || c0.byteV == 14) 8
  if c0.byteV = 13 then
    let c3 := c2.need (decide ((c2.xs.length : Int) ≤ 251)) 5
    (c3.bytesS c3.xs.length, { m0 with data := c3.bytesV c3.xs.length })
  else
    let c3 := c2.byteS.need (decide (1 ≤ c2.byteV) && decide (c2.byteV ≤ 4)) 6
    if dir = 1 then ans c3 { m0 with kind := c2.byteV } else (c3.byteS, { m0 with kind := c2.byteV, next := c3.byteV })
def parse (dir code : Int) (bs : List Int) : Msg × Int :=
  if dir ≠ 0 ∧ dir ≠ 1 then (zeroM, 1) else if code ≠ 43 then (zeroM, 4) else
  if (body dir code bs).1.fin.e ≠ 0 then (zeroM, (body dir code bs).1.fin.e) else ((body dir code bs).2, 0)
theorem objs_step {j : Nat} {K : Int} {c8 cj c20 c21 c22 c23 : Cu} {os : List S43} (h : objs K.toNat c8 = ((objs (K.toNat - j) cj).1, os ++ (objs (K.toNat - j) cj).2)) (hlt : (j : Int) < K) (e0 : c20 = cj) (e1 : c21 = c20.byteS) (e2 : c22 = c21.byteS) (e3 : c23 = c22.bytesS c21.byteV) :
    objs K.toNat c8 = ((objs (K.toNat - (j + 1)) c23).1, (os ++ [⟨c20.byteV, c22.bytesV c21.byteV⟩]) ++ (objs (K.toNat - (j + 1)) c23).2) := by
  obtain ⟨d, hd⟩ : ∃ d, K.toNat - j = d + 1 := ⟨K.toNat - j - 1, by omega⟩
  have hd2 : K.toNat - (j + 1) = d := by omega
  rw [h, hd, hd2]
  subst e0 e1 e2 e3
  simp [objs]
def mans.T11 : Bool × List (List Nat × List Nat) := (true, [([], []), ([], []), ([1], [1]), ([2], [2]), ([3], [3]), ([], []), ([], []), ([], []), ([7], [7]), ([8], [8]), ([6, 9, 8], [6, 9]), ([5, 10], [5, 10]), ([11], [11]), ([4, 12, 10], [4, 12]), ([0, 0, 1, 2, 3, 4, 5, 6, 7, 8, 9, 10, 11, 12, 13], [0]), ([14, 0, 1, 2, 3, 4, 5, 6, 7, 8, 9, 10, 11, 12, 13], [14]), ([15, 13, 13, 0, 1, 2, 3, 4, 5, 6, 7, 8, 9, 10, 11, 12, 13], [13, 15])])
def mans.B11 : List Nat := [0, 0, 2, 6, 14, 0, 0, 0, 128, 384, 960, 2016, 4064, 8190, 16383, 32767, 65535]
theorem mans.tab11 : rtab .any (opsOf Try.f24 11) = mans.T11 := by kernel_rfl
theorem mans.bits11 : waitsOk mans.T11.2 mans.B11 = true := by kernel_rfl
set_option maxHeartbeats 16000000 in
set_option maxRecDepth 100000 in
theorem answer_any {w0 w : World} {gr g gm : Nat} {c0 : Cu} {m : Msg} (h : PS.St w0 gr g gm w c0 m) (hm : m.objects = []) :
    Calls Try.prog 24 #[.pointer (some ⟨g, 0, none⟩), .pointer (some ⟨gm, 0, none⟩)] w fun en w' => en = .returned (.tuple #[]) ∧ PS.St w0 gr g gm w' (ans c0 m).1 (ans c0 m).2 := by
  have HP := Aside0.mk h
  have G0 := Aside0.mk (PS.St.msg h)
  have hk0 := (goodM_num G0.out).1.2.2.2.2.2.2.2.2.2.2.2.2.2.1
  have hkl := hk0.1
  have hkh := hk0.2
  clear h hk0
  go_enter Try.func24, Try.ntmps24
  go_upto_region 1 with (first | (go_at_call 20; obtain ⟨l0, h0⟩ := Cu.byteV_bd (PS.St.good HP.out); (with_reducible refine (PS.St.byte HP.out).mono ?_); rintro en x1 ⟨rfl, hp_⟩; obtain ⟨c1, ec_⟩ : ∃ z, z = c0.byteS := ⟨_, rfl⟩; rw [← ec_] at hp_; have Ec1 := Aside0.mk ec_; clear ec_; obtain ⟨klevel, flevel⟩ := PS.St.at_level hp_; have n0_ := Aside0.mk hp_; clear HP hp_; have HP := n0_; clear n0_))
  have hp_ := HP.out.put_level ⟨l0, h0⟩
  have n0_ := Aside0.mk hp_
  clear HP hp_
  have HP := n0_
  clear n0_
  go_upto_region 2 with (first | (go_at_call 38; (with_reducible refine (level_any c0.byteV _ (by simp [Lit.wf, IntKind.min, IntKind.max, IntKind.signed, IntKind.bits]; omega)).mono ?_); rintro en xl ⟨rfl, hb_⟩; have n0_ := Aside0.mk (HP.out.below hb_); clear HP hb_; have HP := n0_; clear n0_) | (go_at_call 21; (with_reducible refine (PS.St.need HP.out (levB c0.byteV) 6).mono ?_); rintro en x2 ⟨rfl, hp_⟩; obtain ⟨c2, ec_⟩ : ∃ z, z = c1.need (levB c0.byteV) 6 := ⟨_, rfl⟩; rw [← ec_] at hp_; have Ec2 := Aside0.mk ec_; clear ec_; have n0_ := Aside0.mk hp_; clear HP hp_; have HP := n0_; clear n0_))
  go_upto_region 3 with (first | (go_at_call 20; obtain ⟨l2, h2⟩ := Cu.byteV_bd (PS.St.good HP.out); (with_reducible refine (PS.St.byte HP.out).mono ?_); rintro en x3 ⟨rfl, hp_⟩; obtain ⟨c3, ec_⟩ : ∃ z, z = c2.byteS := ⟨_, rfl⟩; rw [← ec_] at hp_; have Ec3 := Aside0.mk ec_; clear ec_; obtain ⟨kmore, fmore⟩ := PS.St.at_more hp_; have n0_ := Aside0.mk hp_; clear HP hp_; have HP := n0_; clear n0_))
  have hp_ := HP.out.put_more ⟨l2, h2⟩
  have n0_ := Aside0.mk hp_
  clear HP hp_
  have HP := n0_
  clear n0_
  obtain ⟨kmore, fmore⟩ := PS.St.at_more HP.out
  obtain ⟨c4, e_⟩ : ∃ z, z = c3.need (c2.byteV == 0 || c2.byteV == 255) 6 := ⟨_, rfl⟩
  have Ec4 := Aside0.mk e_
  clear e_
  go_cut [] from 23 to 36 (fun wx => Aside0 (PS.St w0 gr g gm wx c4 ({ m with level := c0.byteV, more := c2.byteV })))
  case first =>
    cases hs_ : (c2.byteV == 0) with
    | false =>
      have eb_ : (c2.byteV == 0 || c2.byteV == 255) = (c2.byteV == 255) := by first | (rw [hs_]; first | rfl | simp) | (rw [bne, hs_]; first | rfl | simp) | simp [hs_, bne]
      have hn_ : (c2.byteV != 0) = true := by rw [bne, hs_]; rfl
      have EB_ := Aside0.mk eb_
      clear eb_
      go_wp2_with (go_at_call 21; (with_reducible refine (PS.St.need HP.out (c2.byteV == 255) 6).mono ?_); rintro en x4 ⟨rfl, hp_⟩; have n0_ := Aside0.mk hp_; clear HP hp_; have HP := n0_; clear n0_)
      go_meet
      rw [Ec4.out, EB_.out]
      exact HP
    | true =>
      have eb_ : (c2.byteV == 0 || c2.byteV == 255) = (true) := by first | (rw [hs_]; first | rfl | simp) | (rw [bne, hs_]; first | rfl | simp) | simp [hs_, bne]
      have hn_ : (c2.byteV != 0) = false := by rw [bne, hs_]; rfl
      have EB_ := Aside0.mk eb_
      clear eb_
      go_wp2_with (go_at_call 21; (with_reducible refine (PS.St.need HP.out (true) 6).mono ?_); rintro en x4 ⟨rfl, hp_⟩; have n0_ := Aside0.mk hp_; clear HP hp_; have HP := n0_; clear n0_)
      go_meet
      rw [Ec4.out, EB_.out]
      exact HP
  case rest =>
  clear HP
  have HP := hcut
  clear hcut
  go_upto_region 4 with (fail)
  go_upto_region 5 with (first | (go_at_call 20; obtain ⟨l4, h4⟩ := Cu.byteV_bd (PS.St.good HP.out); (with_reducible refine (PS.St.byte HP.out).mono ?_); rintro en x5 ⟨rfl, hp_⟩; obtain ⟨c5, ec_⟩ : ∃ z, z = c4.byteS := ⟨_, rfl⟩; rw [← ec_] at hp_; have Ec5 := Aside0.mk ec_; clear ec_; obtain ⟨knext, fnext⟩ := PS.St.at_next hp_; have n0_ := Aside0.mk hp_; clear HP hp_; have HP := n0_; clear n0_))
  have hp_ := HP.out.put_next ⟨l4, h4⟩
  obtain ⟨kmore, fmore⟩ := PS.St.at_more hp_
  obtain ⟨knext, fnext⟩ := PS.St.at_next hp_
  have n0_ := Aside0.mk hp_
  clear HP hp_
  have HP := n0_
  clear n0_
  obtain ⟨c6, e_⟩ : ∃ z, z = c5.need (c2.byteV != 0 || c4.byteV == 0) 6 := ⟨_, rfl⟩
  have Ec6 := Aside0.mk e_
  clear e_
  go_cut [] from 42 to 55 (fun wx => Aside0 (PS.St w0 gr g gm wx c6 ({ m with level := c0.byteV, more := c2.byteV, next := c4.byteV })))
  case first =>
    cases hs_ : (c2.byteV == 0) with
    | false =>
      have eb_ : (c2.byteV != 0 || c4.byteV == 0) = (true) := by first | (rw [hs_]; first | rfl | simp) | (rw [bne, hs_]; first | rfl | simp) | simp [hs_, bne]
      have hn_ : (c2.byteV != 0) = true := by rw [bne, hs_]; rfl
      have EB_ := Aside0.mk eb_
      clear eb_
      go_wp2_with (go_at_call 21; (with_reducible refine (PS.St.need HP.out (true) 6).mono ?_); rintro en x6 ⟨rfl, hp_⟩; have n0_ := Aside0.mk hp_; clear HP hp_; have HP := n0_; clear n0_)
      go_meet
      rw [Ec6.out, EB_.out]
      exact HP
    | true =>
      have eb_ : (c2.byteV != 0 || c4.byteV == 0) = (c4.byteV == 0) := by first | (rw [hs_]; first | rfl | simp) | (rw [bne, hs_]; first | rfl | simp) | simp [hs_, bne]
      have hn_ : (c2.byteV != 0) = false := by rw [bne, hs_]; rfl
      have EB_ := Aside0.mk eb_
      clear eb_
      go_wp2_with (go_at_call 21; (with_reducible refine (PS.St.need HP.out (c4.byteV == 0) 6).mono ?_); rintro en x6 ⟨rfl, hp_⟩; have n0_ := Aside0.mk hp_; clear HP hp_; have HP := n0_; clear n0_)
      go_meet
      rw [Ec6.out, EB_.out]
      exact HP
  case rest =>
  clear HP
  have HP := hcut
  clear hcut
  go_upto_region 7 with (first | (go_at_call 20; obtain ⟨l6, h6⟩ := Cu.byteV_bd (PS.St.good HP.out); (with_reducible refine (PS.St.byte HP.out).mono ?_); rintro en x7 ⟨rfl, hp_⟩; obtain ⟨c7, ec_⟩ : ∃ z, z = c6.byteS := ⟨_, rfl⟩; rw [← ec_] at hp_; have Ec7 := Aside0.mk ec_; clear ec_; have n0_ := Aside0.mk hp_; clear HP hp_; have HP := n0_; clear n0_))
  obtain ⟨kkind, fkind⟩ := PS.St.at_kind HP.out
  obtain ⟨c8, e_⟩ : ∃ z, z = c7.need (m.kind != 4 || c6.byteV == 1) 5 := ⟨_, rfl⟩
  have Ec8 := Aside0.mk e_
  clear e_
  go_cut [] from 59 to 69 (fun wx => Aside0 (PS.St w0 gr g gm wx c8 ({ m with level := c0.byteV, more := c2.byteV, next := c4.byteV })))
  case first =>
    cases hs_ : (m.kind == 4) with
    | false =>
      have eb_ : (m.kind != 4 || c6.byteV == 1) = (true) := by first | (rw [hs_]; first | rfl | simp) | (rw [bne, hs_]; first | rfl | simp) | simp [hs_, bne]
      have hn_ : (m.kind != 4) = true := by rw [bne, hs_]; rfl
      have EB_ := Aside0.mk eb_
      clear eb_
      go_wp2_with (go_at_call 21; (with_reducible refine (PS.St.need HP.out (true) 5).mono ?_); rintro en x8 ⟨rfl, hp_⟩; have n0_ := Aside0.mk hp_; clear HP hp_; have HP := n0_; clear n0_)
      go_meet
      rw [Ec8.out, EB_.out]
      exact HP
    | true =>
      have eb_ : (m.kind != 4 || c6.byteV == 1) = (c6.byteV == 1) := by first | (rw [hs_]; first | rfl | simp) | (rw [bne, hs_]; first | rfl | simp) | simp [hs_, bne]
      have hn_ : (m.kind != 4) = false := by rw [bne, hs_]; rfl
      have EB_ := Aside0.mk eb_
      clear eb_
      go_wp2_with (go_at_call 21; (with_reducible refine (PS.St.need HP.out (c6.byteV == 1) 5).mono ?_); rintro en x8 ⟨rfl, hp_⟩; have n0_ := Aside0.mk hp_; clear HP hp_; have HP := n0_; clear n0_)
      go_meet
      rw [Ec8.out, EB_.out]
      exact HP
  case rest =>
  clear HP
  have HP := hcut
  clear hcut
  have HS := Aside0.mk (PS.StO.start HP.out hm)
  clear HP
  obtain ⟨B1, hB1⟩ : ∃ z, z = wc.heap.size := ⟨_, rfl⟩
  rw [← hB1] at HS
  clear hB1
  go_wp2
  go_loopw [71] (fun i wr => ∃ (j : Nat) (cj : Cu) (raws : List RawO) (os : List S43) (v : Value), (j : Int) ≤ c6.byteV ∧ i = .int .i64 j ∧ Aside0 (PS.StO w0 gr g gm B1 wr cj ({ m with level := c0.byteV, more := c2.byteV, next := c4.byteV }) raws os v) ∧ Aside0 (objs c6.byteV.toNat c8 = ((objs (c6.byteV.toNat - j) cj).1, os ++ (objs (c6.byteV.toNat - j) cj).2)) ∧ Aside0 (raws.length = j)) (fun i _ => c6.byteV.toNat - (intOf i).toNat)
  case atStart => exact ⟨0, c8, [], [], _, l6, rfl, HS, ⟨by simp⟩, ⟨rfl⟩⟩
  case round =>
    clear HS
    obtain ⟨j, cj, raws, os, v, hj, rfl, HP, HO, HL⟩ := hrel
    by_cases hlt : (j : Int) < c6.byteV
    · obtain ⟨c20, e20_⟩ : ∃ z, z = cj := ⟨_, rfl⟩
      rw [← e20_] at HP
      have EC := Aside0.mk e20_
      clear e20_
      go_upto_region 11 with (first | (go_at_call 20; obtain ⟨l20, h20⟩ := Cu.byteV_bd (PS.StO.good HP.out); (with_reducible refine (PS.StO.byte HP.out).mono ?_); rintro en x41 ⟨rfl, hp_⟩; obtain ⟨c21, ec_⟩ : ∃ z, z = c20.byteS := ⟨_, rfl⟩; rw [← ec_] at hp_; have Ec21 := Aside0.mk ec_; clear ec_; have n0_ := Aside0.mk hp_; clear HP hp_; have HP := n0_; clear n0_))
      obtain ⟨l21, h21⟩ := Cu.byteV_bd (PS.StO.good HP.out)
      have wx : IntKind.i64.wrap c21.byteV = c21.byteV := by rw [IntKind.wrap_i64]; omega
      have HPd := Aside0.mk (PS.StO.drew HP.out)
      have hB1 := HP.out.h3.2.2.2
      have hv := (PS.StO.at_list HPd.out).1
      refine start_ (n := 17) (S := fun w' => w'.cell? ⟨gm, 21, none⟩ = some v) (ds := [16]) (bm 17 0) (by as_aux_lemma => kernel_rfl) rfl (by as_aux_lemma => kernel_rfl) (hv) (fun hHeld => ?_)
      refine with_tabW mans.tab11 mans.bits11 (fun HT_ HW_ => ?_)
      refine pure_ (i := 0) (N := some 75) (v := ?_) (a' := ?_) (bm 17 1) rfl rfl (any_of HT_.out (by as_aux_lemma => kernel_rfl)) (fun _ _ _ h => h) (Or.inl ⟨by rfl, ?_⟩) ?_ ?_
      rotate_left
      · intro w'
        go_simp
        with_reducible rfl
      rotate_left
      · simp only [Act.put, List.setIfInBounds_toArray, List.set_cons_zero, List.set_cons_succ, i64_w, i32_w]
        rfl
      refine pure_ (i := 1) (N := some 76) (v := ?_) (a' := ?_) (bm 17 3) rfl rfl (any_of HT_.out (by as_aux_lemma => kernel_rfl)) (fun _ _ _ h => h) (Or.inl ⟨by rfl, ?_⟩) ?_ ?_
      rotate_left
      · intro w'
        go_simp
        with_reducible rfl
      rotate_left
      · simp only [Act.put, List.setIfInBounds_toArray, List.set_cons_zero, List.set_cons_succ, i64_w, i32_w]
        rfl
      refine pure_ (i := 2) (N := some 77) (v := ?_) (a' := ?_) (bm 17 7) rfl rfl (any_of HT_.out (by as_aux_lemma => kernel_rfl)) (fun _ _ _ h => h) (Or.inl ⟨by rfl, ?_⟩) ?_ ?_
      rotate_left
      · intro w'
        go_simp
        with_reducible rfl
      rotate_left
      · simp only [Act.put, List.setIfInBounds_toArray, List.set_cons_zero, List.set_cons_succ, i64_w, i32_w]
        rfl
      refine pure_ (i := 3) (N := some 78) (v := ?_) (a' := ?_) (bm 17 15) rfl rfl (any_of HT_.out (by as_aux_lemma => kernel_rfl)) (fun _ _ _ h => h) (Or.inl ⟨by rfl, ?_⟩) ?_ ?_
      rotate_left
      · intro w'
        go_simp
        with_reducible rfl
      rotate_left
      · simp only [Act.put, List.setIfInBounds_toArray, List.set_cons_zero, List.set_cons_succ, i64_w, i32_w]
        rfl
      refine pure_ (i := 5) (N := some 80) (v := ?_) (a' := ?_) (bm 17 47) rfl rfl (any_of HT_.out (by as_aux_lemma => kernel_rfl)) (fun _ _ _ h => h) (Or.inl ⟨by rfl, ?_⟩) ?_ ?_
      rotate_left
      · intro w'
        go_simp
        with_reducible rfl
      rotate_left
      · simp only [Act.put, List.setIfInBounds_toArray, List.set_cons_zero, List.set_cons_succ, i64_w, i32_w]
        rfl
      refine pure_ (i := 6) (N := some 81) (v := ?_) (a' := ?_) (bm 17 111) rfl rfl (any_of HT_.out (by as_aux_lemma => kernel_rfl)) (fun _ _ _ h => h) (Or.inl ⟨by rfl, ?_⟩) ?_ ?_
      rotate_left
      · intro w'
        go_simp
        with_reducible rfl
      rotate_left
      · simp only [Act.put, List.setIfInBounds_toArray, List.set_cons_zero, List.set_cons_succ, i64_w, i32_w]
        rfl
      refine pure_ (i := 7) (N := some 82) (v := ?_) (a' := ?_) (bm 17 239) rfl rfl (any_of HT_.out (by as_aux_lemma => kernel_rfl)) (fun _ _ _ h => h) (Or.inl ⟨by rfl, ?_⟩) ?_ ?_
      rotate_left
      · intro w'
        go_simp
        with_reducible rfl
      rotate_left
      · simp only [Act.put, List.setIfInBounds_toArray, List.set_cons_zero, List.set_cons_succ, i64_w, i32_w]
        rfl
      refine take_ (i := 4) (N := some 79) (v := ?_) (a' := ?_) (bm 17 255) rfl rfl (take_ofW HT_.out HW_.out (by as_aux_lemma => kernel_rfl)) (fun _ _ _ h => h) (Or.inl ⟨by rfl, ?_⟩) hHeld ?_ ?_
      rotate_left
      · intro w' s0
        go_simp
        with_reducible rfl
      rotate_left
      · simp only [Act.put, List.setIfInBounds_toArray, List.set_cons_zero, List.set_cons_succ, i64_w, i32_w]
        rfl
      refine one_ (i := 8) (N := some 83) (bm 17 511) rfl rfl (one_of HT_.out (by as_aux_lemma => kernel_rfl)) (by as_aux_lemma => decide) (fun K hK => ?_)
      refine goes_ Try.func20 (by as_aux_lemma => kernel_rfl) rfl #[.pointer (some ⟨g, 0, none⟩)] (by rfl) rfl rfl (by simp only [List.map_toArray, List.map_cons, List.map_nil]; rfl) ?_
      with_reducible refine (PS.StO.byte HPd.out).mono ?_
      rintro en y1 ⟨rfl, hp_⟩
      obtain ⟨c22, e_⟩ : ∃ z, z = c21.byteS := ⟨_, rfl⟩
      rw [← e_] at hp_
      have Ec22 := Aside0.mk e_
      have HP1 := Aside0.mk hp_
      clear e_ hp_
      refine ⟨_, rfl, ?_⟩
      refine hK.out _ _ ((PS.StO.at_list HP1.out).1) (fun hHeld => ?_)
      clear hK K
      refine norm_ (a' := ?_) ?_ ?_
      rotate_left
      · show Act.put _ (some 83) _ = _
        simp only [Act.put, List.setIfInBounds_toArray, List.set_cons_zero, List.set_cons_succ, i64_w, i32_w]
        rfl
      refine pure_ (i := 9) (N := some 84) (v := ?_) (a' := ?_) (bm 17 1023) rfl rfl (any_of HT_.out (by as_aux_lemma => kernel_rfl)) (fun _ _ _ h => h) (Or.inl ⟨by rfl, ?_⟩) ?_ ?_
      rotate_left
      · intro w'
        go_simp
        with_reducible rfl
      rotate_left
      · simp only [Act.put, List.setIfInBounds_toArray, List.set_cons_zero, List.set_cons_succ, i64_w, i32_w]
        rfl
      refine one_ (i := 10) (N := some 85) (bm 17 2047) rfl rfl (one_of HT_.out (by as_aux_lemma => kernel_rfl)) (by as_aux_lemma => decide) (fun K hK => ?_)
      refine goes_ Try.func23 (by as_aux_lemma => kernel_rfl) rfl #[.pointer (some ⟨g, 0, none⟩), .int .i64 c21.byteV] (by rfl) rfl rfl (by simp only [List.map_toArray, List.map_cons, List.map_nil]; rfl) ?_
      with_reducible refine (PS.StO.bytes HP1.out c21.byteV).mono ?_
      rintro en y2 ⟨A5, n5, rfl, hz_, hr_, hp_⟩
      obtain ⟨c23, e_⟩ : ∃ z, z = c22.bytesS c21.byteV := ⟨_, rfl⟩
      rw [← e_] at hp_
      have Ec23 := Aside0.mk e_
      have HP2 := Aside0.mk hp_
      have RZ := Aside0.mk hz_
      have RR := Aside0.mk hr_
      clear e_ hp_ hz_ hr_
      refine ⟨_, rfl, ?_⟩
      refine hK.out _ _ ((PS.StO.at_list HP2.out).1) (fun hHeld => ?_)
      clear hK K
      refine norm_ (a' := ?_) ?_ ?_
      rotate_left
      · show Act.put _ (some 85) _ = _
        simp only [Act.put, List.setIfInBounds_toArray, List.set_cons_zero, List.set_cons_succ, i64_w, i32_w]
        rfl
      refine pure_ (i := 11) (N := some 86) (v := ?_) (a' := ?_) (bm 17 4095) rfl rfl (any_of HT_.out (by as_aux_lemma => kernel_rfl)) (fun _ _ _ h => h) (Or.inl ⟨by rfl, ?_⟩) ?_ ?_
      rotate_left
      · intro w'
        go_simp
        with_reducible rfl
      rotate_left
      · simp only [Act.put, List.setIfInBounds_toArray, List.set_cons_zero, List.set_cons_succ, i64_w, i32_w]
        rfl
      refine one_ (i := 12) (N := some 87) (bm 17 8191) rfl rfl (one_of HT_.out (by as_aux_lemma => kernel_rfl)) (by as_aux_lemma => decide) (fun K hK => ?_)
      refine value_ (w1 := ?_) (v := ?_) (by rfl) rfl ?_ ?_
      rotate_left 2
      · go_simp
        constructor
        · rfl
        · rfl
      refine hK.out _ _ (((below_alloc (Below.refl y2.heap.size y2) _).cell (World.block_lt_of_cell? y2 _ (PS.StO.at_list HP2.out).1)).trans (PS.StO.at_list HP2.out).1) (fun hHeld => ?_)
      clear hK K
      refine norm_ (a' := ?_) ?_ ?_
      rotate_left
      · show Act.put _ (some 87) _ = _
        simp only [Act.put, List.setIfInBounds_toArray, List.set_cons_zero, List.set_cons_succ, i64_w, i32_w]
        rfl
      refine one_ (i := 13) (N := some 88) (bm 17 16383) rfl rfl (one_of HT_.out (by as_aux_lemma => kernel_rfl)) (by as_aux_lemma => decide) (fun K hK => ?_)
      refine Kd.R_append_step kRawO (w0 := w0) (W := y2) w0.heap.size (by rfl) (.tmp 79) (.tmp 87) 28 43 (.agg #[.int .u8 0, .slice none 0 0]) 32 rfl Try.underlying28 (by as_aux_lemma => kernel_rfl) rfl (by as_aux_lemma => decide) (by as_aux_lemma => decide) v raws ⟨c20.byteV, A5, (c22.bytesV c21.byteV).length, n5⟩ [Value.int IntKind.u8 c20.byteV, Value.slice A5 (c22.bytesV c21.byteV).length n5] (fun k => B1 ≤ k) (fun _ => False) (by rfl) (by rfl) rfl (fun _ h => h.elim) (fun k hk => by have := HP2.out.h3.2.2.2; omega) HP2.out.row HP2.out.b HP2.out.b.size (by have := HL.out; omega) ?_
      intro v1 y3 R1 hb1 G1 hv1
      obtain ⟨A9, n9, e9, _, _⟩ := Kd.R_reads R1
      obtain ⟨N9, hN9⟩ : ∃ z, z = (raws ++ [(⟨c20.byteV, A5, (c22.bytesV c21.byteV).length, n5⟩ : RawO)]).length := ⟨_, rfl⟩
      rw [← hN9] at e9
      subst e9
      clear hN9
      obtain ⟨kl, fl⟩ := PS.StO.at_list' HP2.out G1
      refine hK.out _ _ (kl) (fun hHeld => ?_)
      clear hK K
      refine norm_ (a' := ?_) ?_ ?_
      rotate_left
      · show Act.put _ (some 88) _ = _
        simp only [Act.put, List.setIfInBounds_toArray, List.set_cons_zero, List.set_cons_succ, i64_w, i32_w]
        rfl
      refine pure_ (i := 14) (N := some 89) (v := ?_) (a' := ?_) (bm 17 32767) rfl rfl (any_of HT_.out (by as_aux_lemma => kernel_rfl)) (fun _ _ _ h => h) (Or.inl ⟨by rfl, ?_⟩) ?_ ?_
      rotate_left
      · intro w'
        go_simp
        with_reducible rfl
      rotate_left
      · simp only [Act.put, List.setIfInBounds_toArray, List.set_cons_zero, List.set_cons_succ, i64_w, i32_w]
        rfl
      refine pure_ (i := 15) (N := some 90) (v := ?_) (a' := ?_) (bm 17 65535) rfl rfl (any_of HT_.out (by as_aux_lemma => kernel_rfl)) (fun _ _ _ h => h) (Or.inl ⟨by rfl, ?_⟩) ?_ ?_
      rotate_left
      · intro w'
        go_simp
        with_reducible rfl
      rotate_left
      · simp only [Act.put, List.setIfInBounds_toArray, List.set_cons_zero, List.set_cons_succ, i64_w, i32_w]
        rfl
      refine last_ (i := 16) (N := none) (bm 17 131071) rfl rfl (one_of HT_.out (by as_aux_lemma => kernel_rfl)) (by as_aux_lemma => decide) (fun K hK => ?_)
      refine skip_ (w1 := ?_) (by rfl) rfl ?_ ?_
      rotate_left
      · go_simp
        rfl
      refine hK.out _ _ ?_
      clear hK K
      refine done_ (done_of HT_.out (by as_aux_lemma => kernel_rfl)) ?_
      
      have hgood : goodO (⟨c20.byteV, c22.bytesV c21.byteV⟩ : S43) := ⟨⟨l20, h20⟩, Cu.bytes_bytesV (PS.StO.good HP1.out) _⟩
      have HN := Aside0.mk (PS.StO.push HP2.out (r := ⟨c20.byteV, A5, (c22.bytesV c21.byteV).length, n5⟩) (o := ⟨c20.byteV, c22.bytesV c21.byteV⟩) hgood (fun W' hk => ⟨rfl, rfl, RZ.out, RR.out W' hk⟩) R1 hb1 G1 hv1)
      have HO2 := Aside0.mk (objs_step HO.out hlt EC.out Ec21.out Ec22.out Ec23.out)
      have HL2 := Aside0.mk (show (raws ++ [(⟨c20.byteV, A5, (c22.bytesV c21.byteV).length, n5⟩ : RawO)]).length = j + 1 by rw [List.length_append, HL.out]; rfl)
      clear HP HPd HP1 HP2 R1 hb1 G1 hv1 hgood HO HL
      go_wp2
      go_roundw
      case rel => exact ⟨j + 1, c23, _, _, _, by omega, by go_num, HN, HO2, HL2⟩
      case measure => simp [intOf]; omega
    · have HF := PS.StO.close HP.out
      have e0 : c6.byteV.toNat - j = 0 := by omega
      have ho := HO.out
      rw [e0] at ho
      have e1 : objs c6.byteV.toNat c8 = (cj, os) := by rw [ho]; simp [objs]
      have E1 := Aside0.mk e1
      have HFF := Aside0.mk HF
      clear HF ho e1 e0
      go_wp2
      refine bodyPost_end (results_none rfl _ _ _) rfl ⟨rfl, ?_⟩
      have hans : ans c0 m = (cj, { m with level := c0.byteV, more := c2.byteV, next := c4.byteV, objects := os }) := by
        simp only [ans]
        rw [← Ec1.out, ← Ec2.out, ← Ec3.out, ← Ec4.out, ← Ec5.out, ← Ec6.out, ← Ec7.out, ← Ec8.out]
        rw [E1.out]
      rw [hans]
      exact HFF.out
end Go.Proofs.Ytimclbhlgblifaa.Mei
end
