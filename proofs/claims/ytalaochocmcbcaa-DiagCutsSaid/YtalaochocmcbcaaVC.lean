/- What the laws of this chapter rest on, part 3: what the functions that they reach answer, each shown once. Conditions: what each theorem states. (Merged by a program of this session, wip/tools/merge.py, out of its own texts and of the words that the kit's print wrote for this seat, cut to those that are used.) -/
import Derived.Deep.MidRow
import Derived.Maps.OwnOps
import Derived.Maps.Views
import Derived.Deep.CutRange
import Derived.Test.YtalaochocmcbcaaVB
set_option linter.unusedVariables false
set_option linter.unusedSimpArgs false
set_option maxHeartbeats 16000000
set_option maxRecDepth 100000
section
namespace Go.Proofs.Ytalaochocmcbcaa.Same
open Go.RowKit Go.Proofs.Ytalaochocmcbcaa.P Go.Proofs.Ytalaochocmcbcaa.E Go.Proofs.YtalaochocmcbcaaW.PrintWords Go.Proofs.YtalaochocmcbcaaW.PrintLast Go.Proofs.YtalaochocmcbcaaW.PrintMore
def bmr (n m : Nat) : Array Bool := ⟨(List.range n).map fun i => m.testBit i⟩
def refs.T21 : Bool × List (List Nat × List Nat) := (true, [([], []), ([0], [0]), ([], []), ([1, 2], [1, 2]), ([3], [3]), ([4], [4]), ([], []), ([6], [6]), ([], []), ([7, 8], [7, 8]), ([9], [9]), ([10], [10]), ([5, 11], [5, 11]), ([12, 12, 0, 1, 2, 3, 4, 5, 6, 7, 8, 9, 10, 11, 12], [12])])
def refs.B21 : List Nat := [0, 1, 0, 7, 15, 31, 0, 64, 0, 448, 960, 1984, 4095, 8191]
theorem refs.tab21 : rtab .any (opsOf Try.f14 21) = refs.T21 := by kernel_rfl
theorem refs.bits21 : waitsOk refs.T21.2 refs.B21 = true := by kernel_rfl
def refs.T22 : Bool × List (List Nat × List Nat) := (true, [([], []), ([0], [0]), ([1], [1]), ([2], [2]), ([3, 2], [2, 3]), ([2], [2]), ([4, 5, 2], [2, 4, 5]), ([6, 2], [2, 6]), ([7, 2], [2, 7]), ([2], [2]), ([9, 2], [2, 9]), ([2], [2]), ([10, 11, 2], [2, 10, 11]), ([12, 2], [2, 12]), ([13, 2], [2, 13]), ([8, 14, 2], [2, 8, 14]), ([2, 15], [2, 15])])
def refs.B22 : List Nat := [0, 1, 3, 7, 15, 7, 63, 127, 255, 7, 519, 7, 3591, 7687, 15879, 32767, 65535]
theorem refs.tab22 : rtab .any (opsOf Try.f14 22) = refs.T22 := by kernel_rfl
theorem refs.bits22 : waitsOk refs.T22.2 refs.B22 = true := by kernel_rfl
def restB (x y : Msg) : Bool := x.words == y.words && x.bits == y.bits && x.data == y.data && listB recB x.recs y.recs && listB objB x.objects y.objects
theorem rest_rec (x y : Msg) (h : x.recs.length ≠ y.recs.length) : restB x y = false := by
  have e : listB recB x.recs y.recs = false := by
    cases h2 : listB recB x.recs y.recs with
    | false => rfl
    | true => exact absurd (listB_len _ _ h2) h
  unfold restB
  rw [e, Bool.and_false, Bool.false_and]
theorem rest_obj (x y : Msg) (h : x.objects.length ≠ y.objects.length) : restB x y = false := by
  have e : listB objB x.objects y.objects = false := by
    cases h2 : listB objB x.objects y.objects with
    | false => rfl
    | true => exact absurd (listB_len _ _ h2) h
  unfold restB
  rw [e, Bool.and_false]
theorem rec_drop {x y : Msg} {k : Nat} (h : k < x.recs.length) (h2 : k < y.recs.length) : listB recB (x.recs.drop k) (y.recs.drop k) = (recB (rd_T67 x.recs (k : Int)) (rd_T67 y.recs (k : Int)) && listB recB (x.recs.drop (k + 1)) (y.recs.drop (k + 1))) := by
  rw [drop_cons h z67, drop_cons h2 z67]
  unfold rd_T67
  rw [Int.toNat_natCast]
  rfl
theorem obj_drop {x y : Msg} {k : Nat} (h : k < x.objects.length) (h2 : k < y.objects.length) : listB objB (x.objects.drop k) (y.objects.drop k) = (objB (rd_T69 x.objects (k : Int)) (rd_T69 y.objects (k : Int)) && listB objB (x.objects.drop (k + 1)) (y.objects.drop (k + 1))) := by
  rw [drop_cons h z69, drop_cons h2 z69]
  unfold rd_T69
  rw [Int.toNat_natCast]
  rfl
theorem obj_bytes {m : Msg} (g : goodM m) {k : Nat} (h : k < m.objects.length) : isBytes (rd_T69 m.objects (k : Int)).f1 := by
  refine (goodM_num g).2.2 _ ?_
  unfold rd_T69
  rw [Int.toNat_natCast, List.getD_eq_getElem?_getD, List.getElem?_eq_getElem h]
  exact List.getElem_mem h
theorem refsame_ne {cx cy : Array Value} {x y : Msg} {w : World} (hx : IsMsg w cx x) (hy : IsMsg w cy y) (hp : plainB x y = false) :
    Calls Try.prog 14 #[.agg cx, .agg cy] w fun e w' => e = .returned (.bool false) ∧ Below w.heap.size w w' := by
  obtain ⟨A12, c12, A13, c13, A14, c14, A15, c15, A21, c21, rfl, _⟩ := hx
  obtain ⟨B12, d12, B13, d13, B14, d14, B15, d15, B21, d21, rfl, _⟩ := hy
  exact ref_diff x y A12 c12 A13 c13 A14 c14 A15 c15 A21 c21 B12 d12 B13 d13 B14 d14 B15 d15 B21 d21 w hp
theorem refsame_go {cx cy : Array Value} {x y : Msg} {w : World} (hx : IsMsg w cx x) (hy : IsMsg w cy y) (hp : plainB x y = true) :
    Calls Try.prog 14 #[.agg cx, .agg cy] w fun e w' => e = .returned (.bool (restB x y)) ∧ Below w.heap.size w w' := by
  have hp_ := hp
  unfold plainB at hp_
  simp only [Bool.and_eq_true, beq_iff_eq] at hp_
  obtain ⟨⟨⟨⟨⟨⟨⟨⟨⟨⟨⟨⟨⟨⟨⟨⟨e0, e1⟩, e2⟩, e3⟩, e4⟩, e5⟩, e6⟩, e7⟩, e8⟩, e9⟩, e10⟩, e11⟩, e16⟩, e17⟩, e18⟩, e19⟩, e20⟩ := hp_
  have n0 : (x.code != y.code) = false := by rw [bne, e0, beq_self_eq_true]; rfl
  have n1 : (x.fail != y.fail) = false := by rw [bne, e1, beq_self_eq_true]; rfl
  have n2 : (x.addr != y.addr) = false := by rw [bne, e2, beq_self_eq_true]; rfl
  have n3 : (x.count != y.count) = false := by rw [bne, e3, beq_self_eq_true]; rfl
  have n4 : (x.value != y.value) = false := by rw [bne, e4, beq_self_eq_true]; rfl
  have n5 : (x.and_ != y.and_) = false := by rw [bne, e5, beq_self_eq_true]; rfl
  have n6 : (x.or_ != y.or_) = false := by rw [bne, e6, beq_self_eq_true]; rfl
  have n7 : (x.addr2 != y.addr2) = false := by rw [bne, e7, beq_self_eq_true]; rfl
  have n8 : (x.sub != y.sub) = false := by rw [bne, e8, beq_self_eq_true]; rfl
  have n9 : (x.status != y.status) = false := by rw [bne, e9, beq_self_eq_true]; rfl
  have n10 : (x.events != y.events) = false := by rw [bne, e10, beq_self_eq_true]; rfl
  have n11 : (x.messages != y.messages) = false := by rw [bne, e11, beq_self_eq_true]; rfl
  have n16 : (x.mei != y.mei) = false := by rw [bne, e16, beq_self_eq_true]; rfl
  have n17 : (x.kind != y.kind) = false := by rw [bne, e17, beq_self_eq_true]; rfl
  have n18 : (x.level != y.level) = false := by rw [bne, e18, beq_self_eq_true]; rfl
  have n19 : (x.more != y.more) = false := by rw [bne, e19, beq_self_eq_true]; rfl
  have n20 : (x.next != y.next) = false := by rw [bne, e20, beq_self_eq_true]; rfl
  clear e0 e1 e2 e3 e4 e5 e6 e7 e8 e9 e10 e11 e16 e17 e18 e19 e20
  have bx_ : ((w.alloc (Obj.cells cx 30)).alloc (Obj.cells cy 30)).heap[w.heap.size]? = some (.cells cx 30 (0, 0)) := blk_alloc (blk_new w _) _
  have by_ : ((w.alloc (Obj.cells cx 30)).alloc (Obj.cells cy 30)).heap[w.heap.size + 1]? = some (.cells cy 30 (0, 0)) := by have := blk_new (w.alloc (Obj.cells cx 30)) (Obj.cells cy 30); simpa using this
  have px0 := bx_code bx_ hx
  have px1 := bx_fail bx_ hx
  have px2 := bx_addr bx_ hx
  have px3 := bx_count bx_ hx
  have px4 := bx_value bx_ hx
  have px5 := bx_and bx_ hx
  have px6 := bx_or bx_ hx
  have px7 := bx_addr2 bx_ hx
  have px8 := bx_sub bx_ hx
  have px9 := bx_status bx_ hx
  have px10 := bx_events bx_ hx
  have px11 := bx_messages bx_ hx
  have px16 := bx_mei bx_ hx
  have px17 := bx_kind bx_ hx
  have px18 := bx_level bx_ hx
  have px19 := bx_more bx_ hx
  have px20 := bx_next bx_ hx
  have py0 := bx_code by_ hy
  have py1 := bx_fail by_ hy
  have py2 := bx_addr by_ hy
  have py3 := bx_count by_ hy
  have py4 := bx_value by_ hy
  have py5 := bx_and by_ hy
  have py6 := bx_or by_ hy
  have py7 := bx_addr2 by_ hy
  have py8 := bx_sub by_ hy
  have py9 := bx_status by_ hy
  have py10 := bx_events by_ hy
  have py11 := bx_messages by_ hy
  have py16 := bx_mei by_ hy
  have py17 := bx_kind by_ hy
  have py18 := bx_level by_ hy
  have py19 := bx_more by_ hy
  have py20 := bx_next by_ hy
  obtain ⟨Ax12, cx12, Ax13, cx13, Ax14, cx14, Ax15, cx15, Ax21, cx21, ⟨lx12, lx13, lx14, lx15, lx21⟩, r12, r13, r14, r15, r21⟩ := hx.lists
  have RX12 := Aside0.mk r12
  have RX13 := Aside0.mk r13
  have RX14 := Aside0.mk r14
  have RX15 := Aside0.mk r15
  have RX21 := Aside0.mk r21
  have px12 := (blk_cell bx_ 12).trans lx12
  have px13 := (blk_cell bx_ 13).trans lx13
  have px14 := (blk_cell bx_ 14).trans lx14
  have px15 := (blk_cell bx_ 15).trans lx15
  have px21 := (blk_cell bx_ 21).trans lx21
  have LX12 := Aside0.mk lx12
  have LX13 := Aside0.mk lx13
  have LX14 := Aside0.mk lx14
  have LX15 := Aside0.mk lx15
  have LX21 := Aside0.mk lx21
  clear r12 r13 r14 r15 r21 lx12 lx13 lx14 lx15 lx21
  obtain ⟨Ay12, cy12, Ay13, cy13, Ay14, cy14, Ay15, cy15, Ay21, cy21, ⟨ly12, ly13, ly14, ly15, ly21⟩, r12, r13, r14, r15, r21⟩ := hy.lists
  have RY12 := Aside0.mk r12
  have RY13 := Aside0.mk r13
  have RY14 := Aside0.mk r14
  have RY15 := Aside0.mk r15
  have RY21 := Aside0.mk r21
  have py12 := (blk_cell by_ 12).trans ly12
  have py13 := (blk_cell by_ 13).trans ly13
  have py14 := (blk_cell by_ 14).trans ly14
  have py15 := (blk_cell by_ 15).trans ly15
  have py21 := (blk_cell by_ 21).trans ly21
  have LY12 := Aside0.mk ly12
  have LY13 := Aside0.mk ly13
  have LY14 := Aside0.mk ly14
  have LY15 := Aside0.mk ly15
  have LY21 := Aside0.mk ly21
  clear r12 r13 r14 r15 r21 ly12 ly13 ly14 ly15 ly21
  have DX := Aside0.mk (goodM_num hx.good).2.1
  have DY := Aside0.mk (goodM_num hy.good).2.1
  have GX := Aside0.mk hx.good
  have GY := Aside0.mk hy.good
  have H0 := ((Hd.start w).al (Obj.cells cx 30)).al (Obj.cells cy 30)
  have H := Aside0.mk ((H0.add (sta_blk _ _) bx_).add (sta_blk _ _) by_)
  clear H0 bx_ by_ hx hy hp
  obtain ⟨R_, hR⟩ : ∃ z, z = restB x y := ⟨_, rfl⟩
  rw [← hR]
  have RR := Aside0.mk hR
  clear hR
  have hu1 := Try.underlying30
  have hu2 := Try.underlying67
  go_enter Try.func14, Try.ntmps14
  go_upto_region 5 with (fail)
  clear px0 py0 px1 py1 px2 py2 px3 py3 px4 py4 px5 py5 px6 py6 px7 py7 px8 py8 px9 py9 px10 py10 px11 py11 px16 py16 px17 py17 px18 py18 px19 py19 px20 py20 n0 n1 n2 n3 n4 n5 n6 n7 n8 n9 n10 n11 n16 n17 n18 n19 n20
  clear px13 py13 px14 py14 px15 py15 px21 py21
  go_upto_region 6 with (go_at_call 33; (with_reducible refine (R01.words_c (Kd.C_max RX12.out.1) (Kd.C_below RX12.out.1 H.out.b) RX12.out.2 (Kd.C_below RY12.out.1 H.out.b) RY12.out.2).mono ?_); rintro e w6 ⟨rfl, hb_⟩; have n0_ := Aside0.mk (H.out.on hb_); clear H hb_; have H := n0_; clear n0_)
  have px13 := (blk_cell H.out.f.1.2 13).trans LX13.out
  have py13 := (blk_cell H.out.f.2 13).trans LY13.out
  go_upto_region 7 with (go_at_call 34; (with_reducible refine (R01.bools_c (Kd.C_max RX13.out.1) (Kd.C_below RX13.out.1 H.out.b) RX13.out.2 (Kd.C_below RY13.out.1 H.out.b) RY13.out.2).mono ?_); rintro e w7 ⟨rfl, hb_⟩; have n0_ := Aside0.mk (H.out.on hb_); clear H hb_; have H := n0_; clear n0_)
  have px14 := (blk_cell H.out.f.1.2 14).trans LX14.out
  have py14 := (blk_cell H.out.f.2 14).trans LY14.out
  go_upto_region 8 with (go_at_call 18; (with_reducible refine (R01.same_c DX.out DY.out (Kd.C_below RX14.out.1 H.out.b) RX14.out.2 (Kd.C_below RY14.out.1 H.out.b) RY14.out.2).mono ?_); rintro e w8 ⟨rfl, hb_⟩; have n0_ := Aside0.mk (H.out.on hb_); clear H hb_; have H := n0_; clear n0_)
  have px15 := (blk_cell H.out.f.1.2 15).trans LX15.out
  have py15 := (blk_cell H.out.f.2 15).trans LY15.out
  have px21 := (blk_cell H.out.f.1.2 21).trans LX21.out
  have py21 := (blk_cell H.out.f.2 21).trans LY21.out
  have Ewords : ∀ b, (x.words == y.words) = b → b = false → R_ = false := fun b hq hb => by rw [RR.out]; rw [hb] at hq; rw [restB, hq, Bool.false_and, Bool.false_and, Bool.false_and, Bool.false_and]
  have EEwords := Aside0.mk Ewords
  clear Ewords
  have Ebits : ∀ b, (x.bits == y.bits) = b → b = false → R_ = false := fun b hq hb => by rw [RR.out]; rw [hb] at hq; rw [restB, hq, Bool.and_false, Bool.false_and, Bool.false_and, Bool.false_and]
  have EEbits := Aside0.mk Ebits
  clear Ebits
  have Edata : ∀ b, (x.data == y.data) = b → b = false → R_ = false := fun b hq hb => by rw [RR.out]; rw [hb] at hq; rw [restB, hq, Bool.and_false, Bool.false_and, Bool.false_and]
  have EEdata := Aside0.mk Edata
  clear Edata
  cases hwords : (x.words == y.words) with
  | false =>
    have er := Aside0.mk (EEwords.out _ hwords rfl)
    clear hwords
    go_wp2
    go_ret
    exact ⟨congrArg (fun b => Ending.returned (.bool b)) er.out.symm, H.out.b⟩
  | true =>
  have Iwords := Aside0.mk hwords
  clear hwords EEwords
  cases hbits : (x.bits == y.bits) with
  | false =>
    have er := Aside0.mk (EEbits.out _ hbits rfl)
    clear hbits
    go_wp2
    go_ret
    exact ⟨congrArg (fun b => Ending.returned (.bool b)) er.out.symm, H.out.b⟩
  | true =>
  have Ibits := Aside0.mk hbits
  clear hbits EEbits
  cases hdata : (x.data == y.data) with
  | false =>
    have er := Aside0.mk (EEdata.out _ hdata rfl)
    clear hdata
    go_wp2
    go_ret
    exact ⟨congrArg (fun b => Ending.returned (.bool b)) er.out.symm, H.out.b⟩
  | true =>
  have Idata := Aside0.mk hdata
  clear hdata EEdata
  by_cases lrecs : x.recs.length = y.recs.length
  rotate_left
  · have er := Aside0.mk (RR.out.trans (rest_rec x y lrecs))
    have n1 : ((x.recs.length : Int) != (y.recs.length : Int)) = true := bne_iff_ne.2 (by omega)
    have n2 : (x.recs.length != y.recs.length) = true := bne_iff_ne.2 lrecs
    clear lrecs
    go_wp2
    go_ret
    exact ⟨congrArg (fun b => Ending.returned (.bool b)) er.out.symm, H.out.b⟩
  have mrecs : ((x.recs.length : Int) != (y.recs.length : Int)) = false := by rw [bne_eq_false_iff_eq]; omega
  have qrecs : (x.recs.length != y.recs.length) = false := by rw [bne_eq_false_iff_eq]; exact lrecs
  have Lrecs := Aside0.mk lrecs
  clear lrecs
  by_cases lobjects : x.objects.length = y.objects.length
  rotate_left
  · have er := Aside0.mk (RR.out.trans (rest_obj x y lobjects))
    have n1 : ((x.objects.length : Int) != (y.objects.length : Int)) = true := bne_iff_ne.2 (by omega)
    have n2 : (x.objects.length != y.objects.length) = true := bne_iff_ne.2 lobjects
    clear lobjects
    go_wp2
    go_ret
    exact ⟨congrArg (fun b => Ending.returned (.bool b)) er.out.symm, H.out.b⟩
  have mobjects : ((x.objects.length : Int) != (y.objects.length : Int)) = false := by rw [bne_eq_false_iff_eq]; omega
  have qobjects : (x.objects.length != y.objects.length) = false := by rw [bne_eq_false_iff_eq]; exact lobjects
  have Lobjects := Aside0.mk lobjects
  clear lobjects
  have RQ := Aside0.mk (show R_ = (listB recB x.recs y.recs && listB objB x.objects y.objects) by rw [RR.out, restB, Iwords.out, Ibits.out, Idata.out]; rfl)
  clear RR Iwords Ibits Idata
  go_wp2
  clear mrecs qrecs mobjects qobjects px15 py15 px21 py21
  go_loopw [8] (fun i wr => ∃ k : Nat, k ≤ x.recs.length ∧ i = .int .i64 k ∧ Aside0 (R_ = (listB recB (x.recs.drop k) (y.recs.drop k) && listB objB x.objects y.objects)) ∧ Aside0 (Hd w (fun W => (True ∧ W.heap[w.heap.size]? = some (.cells cx 30 (0, 0))) ∧ W.heap[w.heap.size + 1]? = some (.cells cy 30 (0, 0))) wr)) (fun i _ => x.recs.length - (intOf i).toNat)
  case atStart => exact ⟨0, Nat.zero_le _, rfl, ⟨RQ.out⟩, ⟨H.out⟩⟩
  case round =>
    clear H
    obtain ⟨k, hk, rfl, HL, H⟩ := hrel
    have hll : x.recs.length ≤ 9223372036854775807 := RX15.out.1.2.1
    have px15 := (blk_cell H.out.f.1.2 15).trans LX15.out
    have py15 := (blk_cell H.out.f.2 15).trans LY15.out
    by_cases hlt : k < x.recs.length
    · have hlt2 : k < y.recs.length := by rw [← Lrecs.out]; exact hlt
      obtain ⟨adA, A3, cA3, rfl, x0, x1, x2, x3, gA, qA⟩ := at_T67 RX15.out.1 (k : Int) (by omega) (by omega)
      obtain ⟨adB, B3, cB3, rfl, y0, y1, y2, y3, gB, qB⟩ := at_T67 RY15.out.1 (k : Int) (by omega) (by omega)
      have hd := HL.out
      rw [rec_drop hlt hlt2] at hd
      have rx0 := (H.out.b.cell (World.block_lt_of_cell? w _ x0)).trans x0
      rw [Int.toNat_natCast] at rx0
      have ax0 := fun o : Obj => ((below_alloc (Below.refl _ wr) o).cell (World.block_lt_of_cell? wr _ rx0)).trans rx0
      have rx1 := (H.out.b.cell (World.block_lt_of_cell? w _ x1)).trans x1
      rw [Int.toNat_natCast] at rx1
      have ax1 := fun o : Obj => ((below_alloc (Below.refl _ wr) o).cell (World.block_lt_of_cell? wr _ rx1)).trans rx1
      have rx2 := (H.out.b.cell (World.block_lt_of_cell? w _ x2)).trans x2
      rw [Int.toNat_natCast] at rx2
      have ax2 := fun o : Obj => ((below_alloc (Below.refl _ wr) o).cell (World.block_lt_of_cell? wr _ rx2)).trans rx2
      have rx3 := (H.out.b.cell (World.block_lt_of_cell? w _ x3)).trans x3
      rw [Int.toNat_natCast] at rx3
      have ax3 := fun o : Obj => ((below_alloc (Below.refl _ wr) o).cell (World.block_lt_of_cell? wr _ rx3)).trans rx3
      have ry0 := (H.out.b.cell (World.block_lt_of_cell? w _ y0)).trans y0
      rw [Int.toNat_natCast] at ry0
      have ay0 := fun o : Obj => ((below_alloc (Below.refl _ wr) o).cell (World.block_lt_of_cell? wr _ ry0)).trans ry0
      have ry1 := (H.out.b.cell (World.block_lt_of_cell? w _ y1)).trans y1
      rw [Int.toNat_natCast] at ry1
      have ay1 := fun o : Obj => ((below_alloc (Below.refl _ wr) o).cell (World.block_lt_of_cell? wr _ ry1)).trans ry1
      have ry2 := (H.out.b.cell (World.block_lt_of_cell? w _ y2)).trans y2
      rw [Int.toNat_natCast] at ry2
      have ay2 := fun o : Obj => ((below_alloc (Below.refl _ wr) o).cell (World.block_lt_of_cell? wr _ ry2)).trans ry2
      have ry3 := (H.out.b.cell (World.block_lt_of_cell? w _ y3)).trans y3
      rw [Int.toNat_natCast] at ry3
      have ay3 := fun o : Obj => ((below_alloc (Below.refl _ wr) o).cell (World.block_lt_of_cell? wr _ ry3)).trans ry3
      clear x0 x1 x2 x3 y0 y1 y2 y3
      have sx15 := fun o : Obj => ((below_alloc (Below.refl _ wr) o).cell (World.block_lt_of_cell? wr _ px15)).trans px15
      have sy15 := fun o : Obj => ((below_alloc (Below.refl _ wr) o).cell (World.block_lt_of_cell? wr _ py15)).trans py15
      generalize rd_T67 x.recs (k : Int) = ex at *
      generalize rd_T67 y.recs (k : Int) = ey at *
      have HD := Aside0.mk hd
      have QA := Aside0.mk qA
      have QB := Aside0.mk qB
      have ZA := Aside0.mk gA
      have ZB := Aside0.mk gB
      clear hd qA qB gA gB
      have CW := Aside0.mk (fun (W : World) (hb : Below wr.heap.size wr W) => R01.words_c (l := ex.f3) (m := ey.f3) (Kd.C_max QA.out) (A := A3) (B := B3) (c := cA3) (d := cB3) (W := W) (Kd.C_below (Kd.C_below QA.out H.out.b) hb) ZA.out (Kd.C_below (Kd.C_below QB.out H.out.b) hb) ZB.out)
      cases hq : (ex.f3 == ey.f3) with
      | false =>
        have CW2 := CW.out
        rw [hq] at CW2
        have CW := Aside0.mk CW2
        clear CW2
        have er := Aside0.mk (show R_ = false by rw [HD.out, recB, hq]; simp)
        clear hq
        go_wp2_with (go_at_call 33; (with_reducible refine (CW.out _ (below_alloc (below_alloc (Below.refl wr.heap.size wr) _) _)).mono ?_); rintro e wn ⟨rfl, hb_⟩; have H2 := Aside0.mk (H.out.on ((below_alloc (below_alloc (Below.refl wr.heap.size wr) _) _).trans (hb_.mono (by simp; omega)))); have b9_ := blk_below (blk_alloc (blk_new wr (Obj.cells #[Value.int IntKind.u16 ex.f0, Value.int IntKind.u16 ex.f1, Value.int IntKind.u16 ex.f2, Value.slice A3 ex.f3.length cA3] 67)) (Obj.cells #[Value.int IntKind.u16 ey.f0, Value.int IntKind.u16 ey.f1, Value.int IntKind.u16 ey.f2, Value.slice B3 ey.f3.length cB3] 67)) hb_; have b10_ : wn.heap[wr.heap.size + 1]? = some (Obj.cells #[Value.int IntKind.u16 ey.f0, Value.int IntKind.u16 ey.f1, Value.int IntKind.u16 ey.f2, Value.slice B3 ey.f3.length cB3] 67) := blk_below (by have := blk_new (wr.alloc (Obj.cells #[Value.int IntKind.u16 ex.f0, Value.int IntKind.u16 ex.f1, Value.int IntKind.u16 ex.f2, Value.slice A3 ex.f3.length cA3] 67)) (Obj.cells #[Value.int IntKind.u16 ey.f0, Value.int IntKind.u16 ey.f1, Value.int IntKind.u16 ey.f2, Value.slice B3 ey.f3.length cB3] 67); simpa using this) hb_; have k9_0 := (blk_cell b9_ 0).trans rfl; have k9_1 := (blk_cell b9_ 1).trans rfl; have k9_2 := (blk_cell b9_ 2).trans rfl; have k10_0 := (blk_cell b10_ 0).trans rfl; have k10_1 := (blk_cell b10_ 1).trans rfl; have k10_2 := (blk_cell b10_ 2).trans rfl; clear hb_ b9_ b10_)
        go_ret
        exact ⟨congrArg (fun b => Ending.returned (.bool b)) er.out.symm, H2.out.b⟩
      | true =>
      have CW2 := CW.out
      rw [hq] at CW2
      clear CW
      have CW := Aside0.mk CW2
      have F3 := Aside0.mk hq
      clear CW2 hq
      cases hq : (ex.f0 == ey.f0) with
      | false =>
        have hn : (ex.f0 != ey.f0) = true := by rw [bne, hq]; rfl
        have er := Aside0.mk (show R_ = false by rw [HD.out, recB, hq]; simp)
        clear hq
        go_wp2_with (go_at_call 33; (with_reducible refine (CW.out _ (below_alloc (below_alloc (Below.refl wr.heap.size wr) _) _)).mono ?_); rintro e wn ⟨rfl, hb_⟩; have H2 := Aside0.mk (H.out.on ((below_alloc (below_alloc (Below.refl wr.heap.size wr) _) _).trans (hb_.mono (by simp; omega)))); have b9_ := blk_below (blk_alloc (blk_new wr (Obj.cells #[Value.int IntKind.u16 ex.f0, Value.int IntKind.u16 ex.f1, Value.int IntKind.u16 ex.f2, Value.slice A3 ex.f3.length cA3] 67)) (Obj.cells #[Value.int IntKind.u16 ey.f0, Value.int IntKind.u16 ey.f1, Value.int IntKind.u16 ey.f2, Value.slice B3 ey.f3.length cB3] 67)) hb_; have b10_ : wn.heap[wr.heap.size + 1]? = some (Obj.cells #[Value.int IntKind.u16 ey.f0, Value.int IntKind.u16 ey.f1, Value.int IntKind.u16 ey.f2, Value.slice B3 ey.f3.length cB3] 67) := blk_below (by have := blk_new (wr.alloc (Obj.cells #[Value.int IntKind.u16 ex.f0, Value.int IntKind.u16 ex.f1, Value.int IntKind.u16 ex.f2, Value.slice A3 ex.f3.length cA3] 67)) (Obj.cells #[Value.int IntKind.u16 ey.f0, Value.int IntKind.u16 ey.f1, Value.int IntKind.u16 ey.f2, Value.slice B3 ey.f3.length cB3] 67); simpa using this) hb_; have k9_0 := (blk_cell b9_ 0).trans rfl; have k9_1 := (blk_cell b9_ 1).trans rfl; have k9_2 := (blk_cell b9_ 2).trans rfl; have k10_0 := (blk_cell b10_ 0).trans rfl; have k10_1 := (blk_cell b10_ 1).trans rfl; have k10_2 := (blk_cell b10_ 2).trans rfl; clear hb_ b9_ b10_)
        go_ret
        exact ⟨congrArg (fun b => Ending.returned (.bool b)) er.out.symm, H2.out.b⟩
      | true =>
      have n0 : (ex.f0 != ey.f0) = false := by rw [bne, hq]; rfl
      have F0 := Aside0.mk hq
      clear hq
      cases hq : (ex.f1 == ey.f1) with
      | false =>
        have hn : (ex.f1 != ey.f1) = true := by rw [bne, hq]; rfl
        have er := Aside0.mk (show R_ = false by rw [HD.out, recB, hq]; simp)
        clear hq
        go_wp2_with (go_at_call 33; (with_reducible refine (CW.out _ (below_alloc (below_alloc (Below.refl wr.heap.size wr) _) _)).mono ?_); rintro e wn ⟨rfl, hb_⟩; have H2 := Aside0.mk (H.out.on ((below_alloc (below_alloc (Below.refl wr.heap.size wr) _) _).trans (hb_.mono (by simp; omega)))); have b9_ := blk_below (blk_alloc (blk_new wr (Obj.cells #[Value.int IntKind.u16 ex.f0, Value.int IntKind.u16 ex.f1, Value.int IntKind.u16 ex.f2, Value.slice A3 ex.f3.length cA3] 67)) (Obj.cells #[Value.int IntKind.u16 ey.f0, Value.int IntKind.u16 ey.f1, Value.int IntKind.u16 ey.f2, Value.slice B3 ey.f3.length cB3] 67)) hb_; have b10_ : wn.heap[wr.heap.size + 1]? = some (Obj.cells #[Value.int IntKind.u16 ey.f0, Value.int IntKind.u16 ey.f1, Value.int IntKind.u16 ey.f2, Value.slice B3 ey.f3.length cB3] 67) := blk_below (by have := blk_new (wr.alloc (Obj.cells #[Value.int IntKind.u16 ex.f0, Value.int IntKind.u16 ex.f1, Value.int IntKind.u16 ex.f2, Value.slice A3 ex.f3.length cA3] 67)) (Obj.cells #[Value.int IntKind.u16 ey.f0, Value.int IntKind.u16 ey.f1, Value.int IntKind.u16 ey.f2, Value.slice B3 ey.f3.length cB3] 67); simpa using this) hb_; have k9_0 := (blk_cell b9_ 0).trans rfl; have k9_1 := (blk_cell b9_ 1).trans rfl; have k9_2 := (blk_cell b9_ 2).trans rfl; have k10_0 := (blk_cell b10_ 0).trans rfl; have k10_1 := (blk_cell b10_ 1).trans rfl; have k10_2 := (blk_cell b10_ 2).trans rfl; clear hb_ b9_ b10_)
        go_ret
        exact ⟨congrArg (fun b => Ending.returned (.bool b)) er.out.symm, H2.out.b⟩
      | true =>
      have n1 : (ex.f1 != ey.f1) = false := by rw [bne, hq]; rfl
      have F1 := Aside0.mk hq
      clear hq
      cases hq : (ex.f2 == ey.f2) with
      | false =>
        have hn : (ex.f2 != ey.f2) = true := by rw [bne, hq]; rfl
        have er := Aside0.mk (show R_ = false by rw [HD.out, recB, hq]; simp)
        clear hq
        go_wp2_with (go_at_call 33; (with_reducible refine (CW.out _ (below_alloc (below_alloc (Below.refl wr.heap.size wr) _) _)).mono ?_); rintro e wn ⟨rfl, hb_⟩; have H2 := Aside0.mk (H.out.on ((below_alloc (below_alloc (Below.refl wr.heap.size wr) _) _).trans (hb_.mono (by simp; omega)))); have b9_ := blk_below (blk_alloc (blk_new wr (Obj.cells #[Value.int IntKind.u16 ex.f0, Value.int IntKind.u16 ex.f1, Value.int IntKind.u16 ex.f2, Value.slice A3 ex.f3.length cA3] 67)) (Obj.cells #[Value.int IntKind.u16 ey.f0, Value.int IntKind.u16 ey.f1, Value.int IntKind.u16 ey.f2, Value.slice B3 ey.f3.length cB3] 67)) hb_; have b10_ : wn.heap[wr.heap.size + 1]? = some (Obj.cells #[Value.int IntKind.u16 ey.f0, Value.int IntKind.u16 ey.f1, Value.int IntKind.u16 ey.f2, Value.slice B3 ey.f3.length cB3] 67) := blk_below (by have := blk_new (wr.alloc (Obj.cells #[Value.int IntKind.u16 ex.f0, Value.int IntKind.u16 ex.f1, Value.int IntKind.u16 ex.f2, Value.slice A3 ex.f3.length cA3] 67)) (Obj.cells #[Value.int IntKind.u16 ey.f0, Value.int IntKind.u16 ey.f1, Value.int IntKind.u16 ey.f2, Value.slice B3 ey.f3.length cB3] 67); simpa using this) hb_; have k9_0 := (blk_cell b9_ 0).trans rfl; have k9_1 := (blk_cell b9_ 1).trans rfl; have k9_2 := (blk_cell b9_ 2).trans rfl; have k10_0 := (blk_cell b10_ 0).trans rfl; have k10_1 := (blk_cell b10_ 1).trans rfl; have k10_2 := (blk_cell b10_ 2).trans rfl; clear hb_ b9_ b10_)
        go_ret
        exact ⟨congrArg (fun b => Ending.returned (.bool b)) er.out.symm, H2.out.b⟩
      | true =>
      have n2 : (ex.f2 != ey.f2) = false := by rw [bne, hq]; rfl
      have F2 := Aside0.mk hq
      clear hq
      have er := Aside0.mk (show R_ = (listB recB (x.recs.drop (k + 1)) (y.recs.drop (k + 1)) && listB objB x.objects y.objects) by rw [HD.out, recB, F0.out, F1.out, F2.out, F3.out]; rfl)
      go_wp2_with (go_at_call 33; (with_reducible refine (CW.out _ (below_alloc (below_alloc (Below.refl wr.heap.size wr) _) _)).mono ?_); rintro e wn ⟨rfl, hb_⟩; have H2 := Aside0.mk (H.out.on ((below_alloc (below_alloc (Below.refl wr.heap.size wr) _) _).trans (hb_.mono (by simp; omega)))); have b9_ := blk_below (blk_alloc (blk_new wr (Obj.cells #[Value.int IntKind.u16 ex.f0, Value.int IntKind.u16 ex.f1, Value.int IntKind.u16 ex.f2, Value.slice A3 ex.f3.length cA3] 67)) (Obj.cells #[Value.int IntKind.u16 ey.f0, Value.int IntKind.u16 ey.f1, Value.int IntKind.u16 ey.f2, Value.slice B3 ey.f3.length cB3] 67)) hb_; have b10_ : wn.heap[wr.heap.size + 1]? = some (Obj.cells #[Value.int IntKind.u16 ey.f0, Value.int IntKind.u16 ey.f1, Value.int IntKind.u16 ey.f2, Value.slice B3 ey.f3.length cB3] 67) := blk_below (by have := blk_new (wr.alloc (Obj.cells #[Value.int IntKind.u16 ex.f0, Value.int IntKind.u16 ex.f1, Value.int IntKind.u16 ex.f2, Value.slice A3 ex.f3.length cA3] 67)) (Obj.cells #[Value.int IntKind.u16 ey.f0, Value.int IntKind.u16 ey.f1, Value.int IntKind.u16 ey.f2, Value.slice B3 ey.f3.length cB3] 67); simpa using this) hb_; have k9_0 := (blk_cell b9_ 0).trans rfl; have k9_1 := (blk_cell b9_ 1).trans rfl; have k9_2 := (blk_cell b9_ 2).trans rfl; have k10_0 := (blk_cell b10_ 0).trans rfl; have k10_1 := (blk_cell b10_ 1).trans rfl; have k10_2 := (blk_cell b10_ 2).trans rfl; clear hb_ b9_ b10_)
      go_roundw
      case rel => exact ⟨k + 1, by omega, by go_num, er, H2⟩
      case measure => simp [intOf]; omega
    · have RQ2 := Aside0.mk (show R_ = listB objB x.objects y.objects by rw [HL.out, List.drop_eq_nil_of_le (by omega), List.drop_eq_nil_of_le (by rw [← Lrecs.out]; omega)]; rfl)
      clear HL
      go_wp2
      clear px15 py15
      go_loopw [12] (fun i wr2 => ∃ k : Nat, k ≤ x.objects.length ∧ i = .int .i64 k ∧ Aside0 (R_ = listB objB (x.objects.drop k) (y.objects.drop k)) ∧ Aside0 (Hd w (fun W => (True ∧ W.heap[w.heap.size]? = some (.cells cx 30 (0, 0))) ∧ W.heap[w.heap.size + 1]? = some (.cells cy 30 (0, 0))) wr2)) (fun i _ => x.objects.length - (intOf i).toNat)
      case atStart => exact ⟨0, Nat.zero_le _, rfl, ⟨RQ2.out⟩, ⟨H.out⟩⟩
      case round =>
        clear H RQ2
        obtain ⟨k2, hk2, rfl, HL, H⟩ := hrel
        have hll2 : x.objects.length ≤ 9223372036854775807 := RX21.out.1.2.1
        have px21 := (blk_cell H.out.f.1.2 21).trans LX21.out
        have py21 := (blk_cell H.out.f.2 21).trans LY21.out
        by_cases hlt2 : k2 < x.objects.length
        · have hlt3 : k2 < y.objects.length := by rw [← Lobjects.out]; exact hlt2
          have hi1 : (k2 : Int) < (x.objects.length : Int) := by omega
          have hi2 : (k2 : Int) < (y.objects.length : Int) := by omega
          have hi0 : (0 : Int) ≤ (k2 : Int) := by omega
          obtain ⟨adA, A1, cA1, rfl, x0, x1, gA, qA⟩ := at_T69 RX21.out.1 (k2 : Int) (by omega) (by omega)
          obtain ⟨adB, B1, cB1, rfl, y0, y1, gB, qB⟩ := at_T69 RY21.out.1 (k2 : Int) (by omega) (by omega)
          have hd := HL.out
          rw [obj_drop hlt2 hlt3] at hd
          have bA := obj_bytes GX.out hlt2
          have bB := obj_bytes GY.out hlt3
          rw [Int.toNat_natCast] at x0 x1 y0 y1
          generalize rd_T69 x.objects (k2 : Int) = ex at *
          generalize rd_T69 y.objects (k2 : Int) = ey at *
          have X0_ := Aside0.mk x0
          have X1_ := Aside0.mk x1
          have Y0_ := Aside0.mk y0
          have Y1_ := Aside0.mk y1
          have HD := Aside0.mk hd
          have CS := Aside0.mk (fun (W : World) (hb : Below w.heap.size w W) => R01.same_c (l := ex.f1) (m := ey.f1) bA bB (A := A1) (B := B1) (c := cA1) (d := cB1) (W := W) (Kd.C_below qA hb) gA (Kd.C_below qB hb) gB)
          clear x0 x1 y0 y1 hd bA bB qA qB gA gB
          generalize hq : (ex.f1 == ey.f1) = c1 at CS
          have HQ := Aside0.mk hq
          clear hq
          go_upto_region 21 with (fail)
          have Hd0 := Aside0.mk H.out.dr
          refine start_ (n := 14) (S := fun w' => w'.cell? ⟨w.heap.size, 21, none⟩ = some (.slice (some adA) x.objects.length cx21) ∧ w'.cell? ⟨w.heap.size + 1, 21, none⟩ = some (.slice (some adB) y.objects.length cy21) ∧ w'.cell? ⟨(adA.add (k2 * 2)).block, (adA.add (k2 * 2)).off + 1, none⟩ = some (.slice A1 ex.f1.length cA1) ∧ w'.cell? ⟨(adB.add (k2 * 2)).block, (adB.add (k2 * 2)).off + 1, none⟩ = some (.slice B1 ey.f1.length cB1) ∧ Aside0 (Hd w (fun W => (True ∧ W.heap[w.heap.size]? = some (.cells cx 30 (0, 0))) ∧ W.heap[w.heap.size + 1]? = some (.cells cy 30 (0, 0))) w')) (ds := []) (bmr 14 0) (by as_aux_lemma => kernel_rfl) rfl (by as_aux_lemma => kernel_rfl) ⟨((blk_cell Hd0.out.f.1.2 21).trans LX21.out), ((blk_cell Hd0.out.f.2 21).trans LY21.out), ((Hd0.out.b.cell (World.block_lt_of_cell? w _ X1_.out)).trans X1_.out), ((Hd0.out.b.cell (World.block_lt_of_cell? w _ Y1_.out)).trans Y1_.out), Hd0⟩ (fun hHeld => ?_)
          refine with_tabW refs.tab21 refs.bits21 (fun HT_ HW_ => ?_)
          refine pure_ (i := 0) (N := some 224) (v := ?_) (a' := ?_) (bmr 14 1) rfl rfl (any_of HT_.out (by as_aux_lemma => kernel_rfl)) (fun _ _ _ h => h) (Or.inl ⟨by rfl, ?_⟩) ?_ ?_
          rotate_left
          · intro w'
            go_simp
            with_reducible rfl
          rotate_left
          · simp only [Act.put, List.setIfInBounds_toArray, List.set_cons_zero, List.set_cons_succ, i64_w, i32_w]
            rfl
          refine pure_ (i := 2) (N := some 226) (v := ?_) (a' := ?_) (bmr 14 5) rfl rfl (any_of HT_.out (by as_aux_lemma => kernel_rfl)) (fun _ _ _ h => h) (Or.inl ⟨by rfl, ?_⟩) ?_ ?_
          rotate_left
          · intro w'
            go_simp
            with_reducible rfl
          rotate_left
          · simp only [Act.put, List.setIfInBounds_toArray, List.set_cons_zero, List.set_cons_succ, i64_w, i32_w]
            rfl
          refine pure_ (i := 6) (N := some 230) (v := ?_) (a' := ?_) (bmr 14 69) rfl rfl (any_of HT_.out (by as_aux_lemma => kernel_rfl)) (fun _ _ _ h => h) (Or.inl ⟨by rfl, ?_⟩) ?_ ?_
          rotate_left
          · intro w'
            go_simp
            with_reducible rfl
          rotate_left
          · simp only [Act.put, List.setIfInBounds_toArray, List.set_cons_zero, List.set_cons_succ, i64_w, i32_w]
            rfl
          refine pure_ (i := 8) (N := some 232) (v := ?_) (a' := ?_) (bmr 14 325) rfl rfl (any_of HT_.out (by as_aux_lemma => kernel_rfl)) (fun _ _ _ h => h) (Or.inl ⟨by rfl, ?_⟩) ?_ ?_
          rotate_left
          · intro w'
            go_simp
            with_reducible rfl
          rotate_left
          · simp only [Act.put, List.setIfInBounds_toArray, List.set_cons_zero, List.set_cons_succ, i64_w, i32_w]
            rfl
          refine take_ (i := 1) (N := some 225) (v := ?_) (a' := ?_) (bmr 14 327) rfl rfl (take_ofW HT_.out HW_.out (by as_aux_lemma => kernel_rfl)) (fun _ _ _ h => h) (Or.inl ⟨by rfl, ?_⟩) hHeld ?_ ?_
          rotate_left
          · rintro w' ⟨s0, s1, s2, s3, s4⟩
            go_simp
            with_reducible rfl
          rotate_left
          · simp only [Act.put, List.setIfInBounds_toArray, List.set_cons_zero, List.set_cons_succ, i64_w, i32_w]
            rfl
          refine pure_ (i := 3) (N := some 227) (v := ?_) (a' := ?_) (bmr 14 335) rfl rfl (any_of HT_.out (by as_aux_lemma => kernel_rfl)) (fun _ _ _ h => h) (Or.inl ⟨by rfl, ?_⟩) ?_ ?_
          rotate_left
          · intro w'
            go_simp
            with_reducible rfl
          rotate_left
          · simp only [Act.put, List.setIfInBounds_toArray, List.set_cons_zero, List.set_cons_succ, i64_w, i32_w]
            rfl
          refine pure_ (i := 4) (N := some 228) (v := ?_) (a' := ?_) (bmr 14 351) rfl rfl (any_of HT_.out (by as_aux_lemma => kernel_rfl)) (fun _ _ _ h => h) (Or.inl ⟨by rfl, ?_⟩) ?_ ?_
          rotate_left
          · intro w'
            go_simp
            with_reducible rfl
          rotate_left
          · simp only [Act.put, List.setIfInBounds_toArray, List.set_cons_zero, List.set_cons_succ, i64_w, i32_w]
            rfl
          refine take_ (i := 5) (N := some 229) (v := ?_) (a' := ?_) (bmr 14 383) rfl rfl (take_ofW HT_.out HW_.out (by as_aux_lemma => kernel_rfl)) (fun _ _ _ h => h) (Or.inl ⟨by rfl, ?_⟩) hHeld ?_ ?_
          rotate_left
          · rintro w' ⟨s0, s1, s2, s3, s4⟩
            go_simp
            with_reducible rfl
          rotate_left
          · simp only [Act.put, List.setIfInBounds_toArray, List.set_cons_zero, List.set_cons_succ, i64_w, i32_w]
            rfl
          refine take_ (i := 7) (N := some 231) (v := ?_) (a' := ?_) (bmr 14 511) rfl rfl (take_ofW HT_.out HW_.out (by as_aux_lemma => kernel_rfl)) (fun _ _ _ h => h) (Or.inl ⟨by rfl, ?_⟩) hHeld ?_ ?_
          rotate_left
          · rintro w' ⟨s0, s1, s2, s3, s4⟩
            go_simp
            with_reducible rfl
          rotate_left
          · simp only [Act.put, List.setIfInBounds_toArray, List.set_cons_zero, List.set_cons_succ, i64_w, i32_w]
            rfl
          refine pure_ (i := 9) (N := some 233) (v := ?_) (a' := ?_) (bmr 14 1023) rfl rfl (any_of HT_.out (by as_aux_lemma => kernel_rfl)) (fun _ _ _ h => h) (Or.inl ⟨by rfl, ?_⟩) ?_ ?_
          rotate_left
          · intro w'
            go_simp
            with_reducible rfl
          rotate_left
          · simp only [Act.put, List.setIfInBounds_toArray, List.set_cons_zero, List.set_cons_succ, i64_w, i32_w]
            rfl
          refine pure_ (i := 10) (N := some 234) (v := ?_) (a' := ?_) (bmr 14 2047) rfl rfl (any_of HT_.out (by as_aux_lemma => kernel_rfl)) (fun _ _ _ h => h) (Or.inl ⟨by rfl, ?_⟩) ?_ ?_
          rotate_left
          · intro w'
            go_simp
            with_reducible rfl
          rotate_left
          · simp only [Act.put, List.setIfInBounds_toArray, List.set_cons_zero, List.set_cons_succ, i64_w, i32_w]
            rfl
          refine take_ (i := 11) (N := some 235) (v := ?_) (a' := ?_) (bmr 14 4095) rfl rfl (take_ofW HT_.out HW_.out (by as_aux_lemma => kernel_rfl)) (fun _ _ _ h => h) (Or.inl ⟨by rfl, ?_⟩) hHeld ?_ ?_
          rotate_left
          · rintro w' ⟨s0, s1, s2, s3, s4⟩
            go_simp
            with_reducible rfl
          rotate_left
          · simp only [Act.put, List.setIfInBounds_toArray, List.set_cons_zero, List.set_cons_succ, i64_w, i32_w]
            rfl
          refine one_ (i := 12) (N := some 236) (bmr 14 8191) rfl rfl (one_of HT_.out (by as_aux_lemma => kernel_rfl)) (by as_aux_lemma => decide) (fun K hK => ?_)
          refine goes_ Try.func18 (by as_aux_lemma => kernel_rfl) rfl #[.slice A1 ex.f1.length cA1, .slice B1 ey.f1.length cB1] (by rfl) rfl rfl (by simp only [List.map_toArray, List.map_cons, List.map_nil]; rfl) ?_
          with_reducible refine (CS.out _ hHeld.2.2.2.2.out.b).mono ?_
          rintro en w5 ⟨rfl, hb_⟩
          have H5 := Aside0.mk (hHeld.2.2.2.2.out.on hb_)
          clear hb_
          refine ⟨_, rfl, ?_⟩
          refine hK.out _ _ ⟨((blk_cell H5.out.f.1.2 21).trans LX21.out), ((blk_cell H5.out.f.2 21).trans LY21.out), ((H5.out.b.cell (World.block_lt_of_cell? w _ X1_.out)).trans X1_.out), ((H5.out.b.cell (World.block_lt_of_cell? w _ Y1_.out)).trans Y1_.out), H5⟩ (fun hHeld => ?_)
          clear hK K
          refine norm_ (a' := ?_) ?_ ?_
          rotate_left
          · show Act.put _ (some 236) _ = _
            simp only [Act.put, List.setIfInBounds_toArray, List.set_cons_zero, List.set_cons_succ, i64_w, i32_w]
            rfl
          refine pure_ (i := 13) (N := some 13) (v := ?_) (a' := ?_) (bmr 14 16383) rfl rfl (any_of HT_.out (by as_aux_lemma => kernel_rfl)) (fun _ _ _ h => h) (Or.inl ⟨by rfl, ?_⟩) ?_ ?_
          rotate_left
          · intro w'
            go_simp
            with_reducible rfl
          rotate_left
          · simp only [Act.put, List.setIfInBounds_toArray, List.set_cons_zero, List.set_cons_succ, i64_w, i32_w]
            rfl
          refine done_ (done_of HT_.out (by as_aux_lemma => kernel_rfl)) ?_
          clear Hd0 H
          have H := hHeld.2.2.2.2
          clear hHeld
          go_upto_region 22 with (fail)
          have Hd0 := Aside0.mk H.out.dr
          cases c1 with
          | false =>
            have er := Aside0.mk (show R_ = false by rw [HD.out, objB, HQ.out, Bool.and_false, Bool.false_and])
            refine start_ (n := 17) (S := fun w' => w'.cell? ⟨w.heap.size, 21, none⟩ = some (.slice (some adA) x.objects.length cx21) ∧ w'.cell? ⟨w.heap.size + 1, 21, none⟩ = some (.slice (some adB) y.objects.length cy21) ∧ w'.cell? (adA.add (k2 * 2)) = some (.int .u8 ex.f0) ∧ w'.cell? (adB.add (k2 * 2)) = some (.int .u8 ey.f0) ∧ Aside0 (Hd w (fun W => (True ∧ W.heap[w.heap.size]? = some (.cells cx 30 (0, 0))) ∧ W.heap[w.heap.size + 1]? = some (.cells cy 30 (0, 0))) w')) (ds := []) (bmr 17 0) (by as_aux_lemma => kernel_rfl) rfl (by as_aux_lemma => kernel_rfl) ⟨((blk_cell Hd0.out.f.1.2 21).trans LX21.out), ((blk_cell Hd0.out.f.2 21).trans LY21.out), ((Hd0.out.b.cell (World.block_lt_of_cell? w _ X0_.out)).trans X0_.out), ((Hd0.out.b.cell (World.block_lt_of_cell? w _ Y0_.out)).trans Y0_.out), Hd0⟩ (fun hHeld => ?_)
            refine with_tabW refs.tab22 refs.bits22 (fun HT_ HW_ => ?_)
            refine pure_ (i := 0) (N := some 237) (v := ?_) (a' := ?_) (bmr 17 1) rfl rfl (any_of HT_.out (by as_aux_lemma => kernel_rfl)) (fun _ _ _ h => h) (Or.inl ⟨by rfl, ?_⟩) ?_ ?_
            rotate_left
            · intro w'
              go_simp
              with_reducible rfl
            rotate_left
            · simp only [Act.put, List.setIfInBounds_toArray, List.set_cons_zero, List.set_cons_succ, i64_w, i32_w]
              rfl
            refine pure_ (i := 1) (N := some 238) (v := ?_) (a' := ?_) (bmr 17 3) rfl rfl (any_of HT_.out (by as_aux_lemma => kernel_rfl)) (fun _ _ _ h => h) (Or.inl ⟨by rfl, ?_⟩) ?_ ?_
            rotate_left
            · intro w'
              go_simp
              with_reducible rfl
            rotate_left
            · simp only [Act.put, List.setIfInBounds_toArray, List.set_cons_zero, List.set_cons_succ, i64_w, i32_w]
              rfl
            refine pure_ (i := 2) (N := some 239) (v := ?_) (a' := ?_) (bmr 17 7) rfl rfl (any_of HT_.out (by as_aux_lemma => kernel_rfl)) (fun _ _ _ h => h) (Or.inl ⟨by rfl, ?_⟩) ?_ ?_
            rotate_left
            · intro w'
              go_simp
              with_reducible rfl
            rotate_left
            · simp only [Act.put, List.setIfInBounds_toArray, List.set_cons_zero, List.set_cons_succ, i64_w, i32_w]
              rfl
            refine pure_ (i := 3) (N := some 240) (v := undef) (a' := ?_) (bmr 17 15) rfl rfl (any_of HT_.out (by as_aux_lemma => kernel_rfl)) (fun _ _ _ h => h) (Or.inr ⟨by rfl, rfl⟩) ?_ ?_
            rotate_left
            · simp only [Act.put, List.setIfInBounds_toArray, List.set_cons_zero, List.set_cons_succ, i64_w, i32_w]
              rfl
            refine pure_ (i := 4) (N := some 241) (v := undef) (a' := ?_) (bmr 17 31) rfl rfl (any_of HT_.out (by as_aux_lemma => kernel_rfl)) (fun _ _ _ h => h) (Or.inr ⟨by rfl, rfl⟩) ?_ ?_
            rotate_left
            · simp only [Act.put, List.setIfInBounds_toArray, List.set_cons_zero, List.set_cons_succ, i64_w, i32_w]
              rfl
            refine pure_ (i := 5) (N := some 242) (v := undef) (a' := ?_) (bmr 17 63) rfl rfl (any_of HT_.out (by as_aux_lemma => kernel_rfl)) (fun _ _ _ h => h) (Or.inr ⟨by rfl, rfl⟩) ?_ ?_
            rotate_left
            · simp only [Act.put, List.setIfInBounds_toArray, List.set_cons_zero, List.set_cons_succ, i64_w, i32_w]
              rfl
            refine pure_ (i := 6) (N := some 243) (v := undef) (a' := ?_) (bmr 17 127) rfl rfl (any_of HT_.out (by as_aux_lemma => kernel_rfl)) (fun _ _ _ h => h) (Or.inr ⟨by rfl, rfl⟩) ?_ ?_
            rotate_left
            · simp only [Act.put, List.setIfInBounds_toArray, List.set_cons_zero, List.set_cons_succ, i64_w, i32_w]
              rfl
            refine pure_ (i := 7) (N := some 244) (v := undef) (a' := ?_) (bmr 17 255) rfl rfl (any_of HT_.out (by as_aux_lemma => kernel_rfl)) (fun _ _ _ h => h) (Or.inr ⟨by rfl, rfl⟩) ?_ ?_
            rotate_left
            · simp only [Act.put, List.setIfInBounds_toArray, List.set_cons_zero, List.set_cons_succ, i64_w, i32_w]
              rfl
            refine pure_ (i := 8) (N := some 245) (v := undef) (a' := ?_) (bmr 17 511) rfl rfl (any_of HT_.out (by as_aux_lemma => kernel_rfl)) (fun _ _ _ h => h) (Or.inr ⟨by rfl, rfl⟩) ?_ ?_
            rotate_left
            · simp only [Act.put, List.setIfInBounds_toArray, List.set_cons_zero, List.set_cons_succ, i64_w, i32_w]
              rfl
            refine pure_ (i := 9) (N := some 246) (v := undef) (a' := ?_) (bmr 17 1023) rfl rfl (any_of HT_.out (by as_aux_lemma => kernel_rfl)) (fun _ _ _ h => h) (Or.inr ⟨by rfl, rfl⟩) ?_ ?_
            rotate_left
            · simp only [Act.put, List.setIfInBounds_toArray, List.set_cons_zero, List.set_cons_succ, i64_w, i32_w]
              rfl
            refine pure_ (i := 10) (N := some 247) (v := undef) (a' := ?_) (bmr 17 2047) rfl rfl (any_of HT_.out (by as_aux_lemma => kernel_rfl)) (fun _ _ _ h => h) (Or.inr ⟨by rfl, rfl⟩) ?_ ?_
            rotate_left
            · simp only [Act.put, List.setIfInBounds_toArray, List.set_cons_zero, List.set_cons_succ, i64_w, i32_w]
              rfl
            refine pure_ (i := 11) (N := some 248) (v := undef) (a' := ?_) (bmr 17 4095) rfl rfl (any_of HT_.out (by as_aux_lemma => kernel_rfl)) (fun _ _ _ h => h) (Or.inr ⟨by rfl, rfl⟩) ?_ ?_
            rotate_left
            · simp only [Act.put, List.setIfInBounds_toArray, List.set_cons_zero, List.set_cons_succ, i64_w, i32_w]
              rfl
            refine pure_ (i := 12) (N := some 249) (v := undef) (a' := ?_) (bmr 17 8191) rfl rfl (any_of HT_.out (by as_aux_lemma => kernel_rfl)) (fun _ _ _ h => h) (Or.inr ⟨by rfl, rfl⟩) ?_ ?_
            rotate_left
            · simp only [Act.put, List.setIfInBounds_toArray, List.set_cons_zero, List.set_cons_succ, i64_w, i32_w]
              rfl
            refine pure_ (i := 13) (N := some 250) (v := undef) (a' := ?_) (bmr 17 16383) rfl rfl (any_of HT_.out (by as_aux_lemma => kernel_rfl)) (fun _ _ _ h => h) (Or.inr ⟨by rfl, rfl⟩) ?_ ?_
            rotate_left
            · simp only [Act.put, List.setIfInBounds_toArray, List.set_cons_zero, List.set_cons_succ, i64_w, i32_w]
              rfl
            refine pure_ (i := 14) (N := some 251) (v := undef) (a' := ?_) (bmr 17 32767) rfl rfl (any_of HT_.out (by as_aux_lemma => kernel_rfl)) (fun _ _ _ h => h) (Or.inr ⟨by rfl, rfl⟩) ?_ ?_
            rotate_left
            · simp only [Act.put, List.setIfInBounds_toArray, List.set_cons_zero, List.set_cons_succ, i64_w, i32_w]
              rfl
            refine pure_ (i := 15) (N := some 252) (v := undef) (a' := ?_) (bmr 17 65535) rfl rfl (any_of HT_.out (by as_aux_lemma => kernel_rfl)) (fun _ _ _ h => h) (Or.inr ⟨by rfl, rfl⟩) ?_ ?_
            rotate_left
            · simp only [Act.put, List.setIfInBounds_toArray, List.set_cons_zero, List.set_cons_succ, i64_w, i32_w]
              rfl
            refine pure_ (i := 16) (N := some 253) (v := ?_) (a' := ?_) (bmr 17 131071) rfl rfl (any_of HT_.out (by as_aux_lemma => kernel_rfl)) (fun _ _ _ h => h) (Or.inl ⟨by rfl, ?_⟩) ?_ ?_
            rotate_left
            · intro w'
              go_simp
              with_reducible rfl
            rotate_left
            · simp only [Act.put, List.setIfInBounds_toArray, List.set_cons_zero, List.set_cons_succ, i64_w, i32_w]
              rfl
            refine done_ (done_of HT_.out (by as_aux_lemma => kernel_rfl)) ?_
            go_wp2
            go_ret
            exact ⟨congrArg (fun b => Ending.returned (.bool b)) er.out.symm, hHeld.2.2.2.2.out.b⟩
          | true =>
          refine start_ (n := 17) (S := fun w' => w'.cell? ⟨w.heap.size, 21, none⟩ = some (.slice (some adA) x.objects.length cx21) ∧ w'.cell? ⟨w.heap.size + 1, 21, none⟩ = some (.slice (some adB) y.objects.length cy21) ∧ w'.cell? (adA.add (k2 * 2)) = some (.int .u8 ex.f0) ∧ w'.cell? (adB.add (k2 * 2)) = some (.int .u8 ey.f0) ∧ Aside0 (Hd w (fun W => (True ∧ W.heap[w.heap.size]? = some (.cells cx 30 (0, 0))) ∧ W.heap[w.heap.size + 1]? = some (.cells cy 30 (0, 0))) w')) (ds := []) (bmr 17 0) (by as_aux_lemma => kernel_rfl) rfl (by as_aux_lemma => kernel_rfl) ⟨((blk_cell Hd0.out.f.1.2 21).trans LX21.out), ((blk_cell Hd0.out.f.2 21).trans LY21.out), ((Hd0.out.b.cell (World.block_lt_of_cell? w _ X0_.out)).trans X0_.out), ((Hd0.out.b.cell (World.block_lt_of_cell? w _ Y0_.out)).trans Y0_.out), Hd0⟩ (fun hHeld => ?_)
          refine with_tabW refs.tab22 refs.bits22 (fun HT_ HW_ => ?_)
          refine pure_ (i := 0) (N := some 237) (v := ?_) (a' := ?_) (bmr 17 1) rfl rfl (any_of HT_.out (by as_aux_lemma => kernel_rfl)) (fun _ _ _ h => h) (Or.inl ⟨by rfl, ?_⟩) ?_ ?_
          rotate_left
          · intro w'
            go_simp
            with_reducible rfl
          rotate_left
          · simp only [Act.put, List.setIfInBounds_toArray, List.set_cons_zero, List.set_cons_succ, i64_w, i32_w]
            rfl
          refine pure_ (i := 1) (N := some 238) (v := ?_) (a' := ?_) (bmr 17 3) rfl rfl (any_of HT_.out (by as_aux_lemma => kernel_rfl)) (fun _ _ _ h => h) (Or.inl ⟨by rfl, ?_⟩) ?_ ?_
          rotate_left
          · intro w'
            go_simp
            with_reducible rfl
          rotate_left
          · simp only [Act.put, List.setIfInBounds_toArray, List.set_cons_zero, List.set_cons_succ, i64_w, i32_w]
            rfl
          refine pure_ (i := 2) (N := some 239) (v := ?_) (a' := ?_) (bmr 17 7) rfl rfl (any_of HT_.out (by as_aux_lemma => kernel_rfl)) (fun _ _ _ h => h) (Or.inl ⟨by rfl, ?_⟩) ?_ ?_
          rotate_left
          · intro w'
            go_simp
            with_reducible rfl
          rotate_left
          · simp only [Act.put, List.setIfInBounds_toArray, List.set_cons_zero, List.set_cons_succ, i64_w, i32_w]
            rfl
          refine pure_ (i := 3) (N := some 240) (v := ?_) (a' := ?_) (bmr 17 15) rfl rfl (any_of HT_.out (by as_aux_lemma => kernel_rfl)) (fun _ _ _ h => h) (Or.inl ⟨by rfl, ?_⟩) ?_ ?_
          rotate_left
          · intro w'
            go_simp
            with_reducible rfl
          rotate_left
          · simp only [Act.put, List.setIfInBounds_toArray, List.set_cons_zero, List.set_cons_succ, i64_w, i32_w]
            rfl
          refine pure_ (i := 5) (N := some 242) (v := ?_) (a' := ?_) (bmr 17 47) rfl rfl (any_of HT_.out (by as_aux_lemma => kernel_rfl)) (fun _ _ _ h => h) (Or.inl ⟨by rfl, ?_⟩) ?_ ?_
          rotate_left
          · intro w'
            go_simp
            with_reducible rfl
          rotate_left
          · simp only [Act.put, List.setIfInBounds_toArray, List.set_cons_zero, List.set_cons_succ, i64_w, i32_w]
            rfl
          refine pure_ (i := 9) (N := some 246) (v := ?_) (a' := ?_) (bmr 17 559) rfl rfl (any_of HT_.out (by as_aux_lemma => kernel_rfl)) (fun _ _ _ h => h) (Or.inl ⟨by rfl, ?_⟩) ?_ ?_
          rotate_left
          · intro w'
            go_simp
            with_reducible rfl
          rotate_left
          · simp only [Act.put, List.setIfInBounds_toArray, List.set_cons_zero, List.set_cons_succ, i64_w, i32_w]
            rfl
          refine pure_ (i := 11) (N := some 248) (v := ?_) (a' := ?_) (bmr 17 2607) rfl rfl (any_of HT_.out (by as_aux_lemma => kernel_rfl)) (fun _ _ _ h => h) (Or.inl ⟨by rfl, ?_⟩) ?_ ?_
          rotate_left
          · intro w'
            go_simp
            with_reducible rfl
          rotate_left
          · simp only [Act.put, List.setIfInBounds_toArray, List.set_cons_zero, List.set_cons_succ, i64_w, i32_w]
            rfl
          refine take_ (i := 4) (N := some 241) (v := ?_) (a' := ?_) (bmr 17 2623) rfl rfl (take_ofW HT_.out HW_.out (by as_aux_lemma => kernel_rfl)) (fun _ _ _ h => h) (Or.inl ⟨by rfl, ?_⟩) hHeld ?_ ?_
          rotate_left
          · rintro w' ⟨s0, s1, s2, s3, s4⟩
            go_simp
            with_reducible rfl
          rotate_left
          · simp only [Act.put, List.setIfInBounds_toArray, List.set_cons_zero, List.set_cons_succ, i64_w, i32_w]
            rfl
          refine pure_ (i := 6) (N := some 243) (v := ?_) (a' := ?_) (bmr 17 2687) rfl rfl (any_of HT_.out (by as_aux_lemma => kernel_rfl)) (fun _ _ _ h => h) (Or.inl ⟨by rfl, ?_⟩) ?_ ?_
          rotate_left
          · intro w'
            go_simp
            with_reducible rfl
          rotate_left
          · simp only [Act.put, List.setIfInBounds_toArray, List.set_cons_zero, List.set_cons_succ, i64_w, i32_w]
            rfl
          refine pure_ (i := 7) (N := some 244) (v := ?_) (a' := ?_) (bmr 17 2815) rfl rfl (any_of HT_.out (by as_aux_lemma => kernel_rfl)) (fun _ _ _ h => h) (Or.inl ⟨by rfl, ?_⟩) ?_ ?_
          rotate_left
          · intro w'
            go_simp
            with_reducible rfl
          rotate_left
          · simp only [Act.put, List.setIfInBounds_toArray, List.set_cons_zero, List.set_cons_succ, i64_w, i32_w]
            rfl
          refine take_ (i := 8) (N := some 245) (v := ?_) (a' := ?_) (bmr 17 3071) rfl rfl (take_ofW HT_.out HW_.out (by as_aux_lemma => kernel_rfl)) (fun _ _ _ h => h) (Or.inl ⟨by rfl, ?_⟩) hHeld ?_ ?_
          rotate_left
          · rintro w' ⟨s0, s1, s2, s3, s4⟩
            go_simp
            with_reducible rfl
          rotate_left
          · simp only [Act.put, List.setIfInBounds_toArray, List.set_cons_zero, List.set_cons_succ, i64_w, i32_w]
            rfl
          refine take_ (i := 10) (N := some 247) (v := ?_) (a' := ?_) (bmr 17 4095) rfl rfl (take_ofW HT_.out HW_.out (by as_aux_lemma => kernel_rfl)) (fun _ _ _ h => h) (Or.inl ⟨by rfl, ?_⟩) hHeld ?_ ?_
          rotate_left
          · rintro w' ⟨s0, s1, s2, s3, s4⟩
            go_simp
            with_reducible rfl
          rotate_left
          · simp only [Act.put, List.setIfInBounds_toArray, List.set_cons_zero, List.set_cons_succ, i64_w, i32_w]
            rfl
          refine pure_ (i := 12) (N := some 249) (v := ?_) (a' := ?_) (bmr 17 8191) rfl rfl (any_of HT_.out (by as_aux_lemma => kernel_rfl)) (fun _ _ _ h => h) (Or.inl ⟨by rfl, ?_⟩) ?_ ?_
          rotate_left
          · intro w'
            go_simp
            with_reducible rfl
          rotate_left
          · simp only [Act.put, List.setIfInBounds_toArray, List.set_cons_zero, List.set_cons_succ, i64_w, i32_w]
            rfl
          refine pure_ (i := 13) (N := some 250) (v := ?_) (a' := ?_) (bmr 17 16383) rfl rfl (any_of HT_.out (by as_aux_lemma => kernel_rfl)) (fun _ _ _ h => h) (Or.inl ⟨by rfl, ?_⟩) ?_ ?_
          rotate_left
          · intro w'
            go_simp
            with_reducible rfl
          rotate_left
          · simp only [Act.put, List.setIfInBounds_toArray, List.set_cons_zero, List.set_cons_succ, i64_w, i32_w]
            rfl
          refine take_ (i := 14) (N := some 251) (v := ?_) (a' := ?_) (bmr 17 32767) rfl rfl (take_ofW HT_.out HW_.out (by as_aux_lemma => kernel_rfl)) (fun _ _ _ h => h) (Or.inl ⟨by rfl, ?_⟩) hHeld ?_ ?_
          rotate_left
          · rintro w' ⟨s0, s1, s2, s3, s4⟩
            go_simp
            with_reducible rfl
          rotate_left
          · simp only [Act.put, List.setIfInBounds_toArray, List.set_cons_zero, List.set_cons_succ, i64_w, i32_w]
            rfl
          refine pure_ (i := 15) (N := some 252) (v := ?_) (a' := ?_) (bmr 17 65535) rfl rfl (any_of HT_.out (by as_aux_lemma => kernel_rfl)) (fun _ _ _ h => h) (Or.inl ⟨by rfl, ?_⟩) ?_ ?_
          rotate_left
          · intro w'
            go_simp
            with_reducible rfl
          rotate_left
          · simp only [Act.put, List.setIfInBounds_toArray, List.set_cons_zero, List.set_cons_succ, i64_w, i32_w]
            rfl
          refine pure_ (i := 16) (N := some 253) (v := ?_) (a' := ?_) (bmr 17 131071) rfl rfl (any_of HT_.out (by as_aux_lemma => kernel_rfl)) (fun _ _ _ h => h) (Or.inl ⟨by rfl, ?_⟩) ?_ ?_
          rotate_left
          · intro w'
            go_simp
            with_reducible rfl
          rotate_left
          · simp only [Act.put, List.setIfInBounds_toArray, List.set_cons_zero, List.set_cons_succ, i64_w, i32_w]
            rfl
          refine done_ (done_of HT_.out (by as_aux_lemma => kernel_rfl)) ?_
          cases hq0 : (ex.f0 == ey.f0) with
          | false =>
            have hn : (ex.f0 != ey.f0) = true := by rw [bne, hq0]; rfl
            have er := Aside0.mk (show R_ = false by rw [HD.out, objB, hq0, Bool.false_and, Bool.false_and])
            clear hq0
            go_wp2
            go_ret
            exact ⟨congrArg (fun b => Ending.returned (.bool b)) er.out.symm, hHeld.2.2.2.2.out.b⟩
          | true =>
          have hn : (ex.f0 != ey.f0) = false := by rw [bne, hq0]; rfl
          have er := Aside0.mk (show R_ = listB objB (x.objects.drop (k2 + 1)) (y.objects.drop (k2 + 1)) by rw [HD.out, objB, hq0, HQ.out]; rfl)
          clear hq0
          go_wp2
          go_roundw
          case rel => exact ⟨k2 + 1, by omega, by go_num, er, hHeld.2.2.2.2⟩
          case measure => simp [intOf]; omega
        · have er := Aside0.mk (show R_ = true by rw [HL.out, List.drop_eq_nil_of_le (by omega), List.drop_eq_nil_of_le (by rw [← Lobjects.out]; omega)]; rfl)
          go_wp2
          go_ret
          exact ⟨congrArg (fun b => Ending.returned (.bool b)) er.out.symm, H.out.b⟩
theorem refsame_msg {cx cy : Array Value} {x y : Msg} {w : World} (hx : IsMsg w cx x) (hy : IsMsg w cy y) : Calls Try.prog 14 #[.agg cx, .agg cy] w fun e w' => e = .returned (.bool (sameB x y)) ∧ Below w.heap.size w w' := by
  have es : sameB x y = (plainB x y && restB x y) := by unfold sameB restB; simp only [Bool.and_assoc]
  rw [es]
  cases hp : plainB x y with
  | false => exact refsame_ne hx hy hp
  | true => exact refsame_go hx hy hp
end Go.Proofs.Ytalaochocmcbcaa.Same
end
section
namespace Go.Proofs.Ytalaochocmcbcaa.Same
open Go.RowKit Go.Proofs.Ytalaochocmcbcaa.P Go.Proofs.Ytalaochocmcbcaa.E Go.Proofs.YtalaochocmcbcaaW.PrintWords Go.Proofs.YtalaochocmcbcaaW.PrintLast Go.Proofs.YtalaochocmcbcaaW.PrintMore
theorem listB_refl {α : Type} {f : α → α → Bool} (h : ∀ x, f x x = true) : ∀ l : List α, listB f l l = true
  | [] => rfl
  | x :: xs => by simp only [listB, h x, listB_refl h xs, Bool.and_self]
theorem listB_eq {α : Type} {f : α → α → Bool} (h : ∀ x y, f x y = true → x = y) : ∀ l m : List α, listB f l m = true → l = m
  | [], [], _ => rfl
  | x :: xs, y :: ys, e => by
    simp only [listB, Bool.and_eq_true] at e
    rw [h x y e.1, listB_eq h xs ys e.2]
  | [], _ :: _, e => by cases e
  | _ :: _, [], e => by cases e
theorem rec_refl (x) : recB x x = true := by simp [recB]
theorem obj_refl (x) : objB x x = true := by simp [objB]
theorem rec_eq (x y) (h : recB x y = true) : x = y := by
  unfold recB at h
  simp only [Bool.and_eq_true, beq_iff_eq] at h
  obtain ⟨⟨⟨h0, h1⟩, h2⟩, h3⟩ := h
  cases x; cases y; simp_all
theorem obj_eq (x y) (h : objB x y = true) : x = y := by
  unfold objB at h
  simp only [Bool.and_eq_true, beq_iff_eq] at h
  cases x; cases y; simp_all
theorem same_refl (x : Msg) : sameB x x = true := by
  unfold sameB plainB
  simp only [beq_self_eq_true, Bool.true_and, listB_refl rec_refl, listB_refl obj_refl]
theorem same_eq (x y : Msg) : sameB x y = true ↔ x = y := by
  constructor
  · intro h
    unfold sameB plainB at h
    simp only [Bool.and_eq_true, beq_iff_eq] at h
    obtain ⟨⟨⟨⟨⟨⟨⟨⟨⟨⟨⟨⟨⟨⟨⟨⟨⟨⟨⟨⟨⟨h0, h1⟩, h2⟩, h3⟩, h4⟩, h5⟩, h6⟩, h7⟩, h8⟩, h9⟩, h10⟩, h11⟩, h12⟩, h13⟩, h14⟩, h15⟩, h16⟩, k0⟩, k1⟩, k2⟩, k3⟩, k4⟩ := h
    have e3 := listB_eq rec_eq _ _ k3
    have e4 := listB_eq obj_eq _ _ k4
    cases x; cases y; simp_all
  · rintro rfl
    exact same_refl x
end Go.Proofs.Ytalaochocmcbcaa.Same
end
section
namespace Go.Proofs.Ytalaochocmcbcaa.Same
open Go.RowKit Go.Proofs.Ytalaochocmcbcaa.P Go.Proofs.Ytalaochocmcbcaa.E Go.Proofs.YtalaochocmcbcaaW.PrintWords Go.Proofs.YtalaochocmcbcaaW.PrintLast Go.Proofs.YtalaochocmcbcaaW.PrintMore
def fewB (m : Msg) : Bool := decide (m.words.length ≤ 300 ∧ m.bits.length ≤ 2500 ∧ m.data.length ≤ 300 ∧ m.recs.length ≤ 50 ∧ m.objects.length ≤ 100) && ((m.recs.all fun o => decide (o.f3.length ≤ 200)) && (m.objects.all fun o => decide (o.f1.length ≤ 300)))
theorem few_no {cx : Array Value} {m : Msg} {w : World} (hm : IsMsg w cx m) (h : ¬ (m.words.length ≤ 300 ∧ m.bits.length ≤ 2500 ∧ m.data.length ≤ 300 ∧ m.recs.length ≤ 50 ∧ m.objects.length ≤ 100)) : Calls Try.prog 15 #[.agg cx] w fun e w' => e = .returned (.bool false) ∧ Below w.heap.size w w' := by
  obtain ⟨A12, c12, A13, c13, A14, c14, A15, c15, A21, c21, ⟨l12, l13, l14, l15, l21⟩, r12, r13, r14, r15, r21⟩ := hm.lists
  have hb := blk_new w (.cells cx 30 (0, 0))
  have k12 := (blk_cell hb 12).trans l12
  have k13 := (blk_cell hb 13).trans l13
  have k14 := (blk_cell hb 14).trans l14
  have k15 := (blk_cell hb 15).trans l15
  have k21 := (blk_cell hb 21).trans l21
  have R15 := Aside0.mk r15
  have R21 := Aside0.mk r21
  have HB := Aside0.mk hb
  have HW := Aside0.mk (below_alloc (Below.refl w.heap.size w) (.cells cx 30 (0, 0)))
  have hu1 := Try.underlying30
  clear l12 l13 l14 l15 l21 r12 r13 r14 r15 r21 hb
  have H := Aside0.mk h
  clear hm h
  go_enter Try.func15, Try.ntmps15
  go_upto_region 2 with (fail)
  all_goals first
    | (go_wp2; go_ret; exact ⟨rfl, HW.out⟩)
    | (exfalso; have := H.out; omega)
theorem drop_all {α : Type} (p : α → Bool) {l : List α} {i : Nat} (h : i < l.length) (d : α) : (l.drop i).all p = (p (l.getD i d) && (l.drop (i + 1)).all p) := by
  rw [drop_cons h d]
  rfl
theorem few_go {cx : Array Value} {m : Msg} {w : World} (hm : IsMsg w cx m) (h0 : m.words.length ≤ 300) (h1 : m.bits.length ≤ 2500) (h2 : m.data.length ≤ 300) (h3 : m.recs.length ≤ 50) (h4 : m.objects.length ≤ 100) : Calls Try.prog 15 #[.agg cx] w fun e w' => e = .returned (.bool ((m.recs.all fun o => decide (o.f3.length ≤ 200)) && (m.objects.all fun o => decide (o.f1.length ≤ 300)))) ∧ Below w.heap.size w w' := by
  obtain ⟨A12, c12, A13, c13, A14, c14, A15, c15, A21, c21, ⟨l12, l13, l14, l15, l21⟩, r12, r13, r14, r15, r21⟩ := hm.lists
  have hb := blk_new w (.cells cx 30 (0, 0))
  have k12 := (blk_cell hb 12).trans l12
  have k13 := (blk_cell hb 13).trans l13
  have k14 := (blk_cell hb 14).trans l14
  have k15 := (blk_cell hb 15).trans l15
  have k21 := (blk_cell hb 21).trans l21
  have R15 := Aside0.mk r15
  have R21 := Aside0.mk r21
  have HB := Aside0.mk hb
  have HW := Aside0.mk (below_alloc (Below.refl w.heap.size w) (.cells cx 30 (0, 0)))
  have hu1 := Try.underlying30
  clear l12 l13 l14 l15 l21 r12 r13 r14 r15 r21 hb
  have e0 : decide ((m.words.length : Int) > 300) = false := decide_eq_false (by omega)
  have e0_ : decide ((300 : Int) < (m.words.length : Int)) = false := decide_eq_false (by omega)
  have e1 : decide ((m.bits.length : Int) > 2500) = false := decide_eq_false (by omega)
  have e1_ : decide ((2500 : Int) < (m.bits.length : Int)) = false := decide_eq_false (by omega)
  have e2 : decide ((m.data.length : Int) > 300) = false := decide_eq_false (by omega)
  have e2_ : decide ((300 : Int) < (m.data.length : Int)) = false := decide_eq_false (by omega)
  have e3 : decide ((m.recs.length : Int) > 50) = false := decide_eq_false (by omega)
  have e3_ : decide ((50 : Int) < (m.recs.length : Int)) = false := decide_eq_false (by omega)
  have e4 : decide ((m.objects.length : Int) > 100) = false := decide_eq_false (by omega)
  have e4_ : decide ((100 : Int) < (m.objects.length : Int)) = false := decide_eq_false (by omega)
  have HR := Aside0.mk h3
  have HO := Aside0.mk h4
  have b3 : (m.recs.length : Int) ≤ 50 := by omega
  have b4 : (m.objects.length : Int) ≤ 100 := by omega
  clear hm h0 h1 h2 h3 h4
  generalize hP : (m.recs.all fun o => decide (o.f3.length ≤ 200)) = P
  generalize hO : (m.objects.all fun o => decide (o.f1.length ≤ 300)) = O
  have HP := Aside0.mk hP
  have HOO := Aside0.mk hO
  clear hP hO
  go_enter Try.func15, Try.ntmps15
  go_wp2
  go_loopw [3] (fun i wr => ∃ k : Nat, k ≤ m.recs.length ∧ i = .int .i64 k ∧ Aside0 (P = (m.recs.drop k).all fun o => decide (o.f3.length ≤ 200)) ∧ wr = w.alloc (.cells cx 30 (0, 0))) (fun i _ => m.recs.length - (intOf i).toNat)
  case atStart => exact ⟨0, Nat.zero_le _, rfl, ⟨HP.out.symm⟩, rfl⟩
  case round =>
    obtain ⟨k, hk, rfl, HL, rfl⟩ := hrel
    by_cases hlt : k < m.recs.length
    · obtain ⟨ad, A3, cA3, rfl, x0, x1, x2, x3, gA, qA⟩ := at_T67 R15.out.1 (k : Int) (by omega) (by omega)
      rw [Int.toNat_natCast] at x3
      have y3 := (HW.out.cell (World.block_lt_of_cell? w _ x3)).trans x3
      have e1 := drop_all (fun o : S67 => decide (o.f3.length ≤ 200)) hlt z67
      rw [← HL.out] at e1
      have e2 : rd_T67 m.recs (k : Int) = m.recs.getD k z67 := by unfold rd_T67; rw [Int.toNat_natCast]
      rw [e2] at y3 qA gA
      generalize (m.recs.getD k z67).f3 = f3 at *
      have qL : f3.length ≤ 9223372036854775807 := qA.2.1
      clear x0 x1 x2 x3 e2 qA gA
      by_cases hf : f3.length ≤ 200
      · have d1 : decide ((f3.length : Int) > 200) = false := decide_eq_false (by omega)
        have d2 : decide ((200 : Int) < (f3.length : Int)) = false := decide_eq_false (by omega)
        rw [decide_eq_true hf, Bool.true_and] at e1
        have E1 := Aside0.mk e1
        clear e1 hf
        go_wp2
        go_roundw
        case rel => exact ⟨k + 1, by omega, by go_num, E1, by first | rfl | trivial⟩
        case measure => simp [intOf]; omega
      · have d1 : decide ((f3.length : Int) > 200) = true := decide_eq_true (by omega)
        have d2 : decide ((200 : Int) < (f3.length : Int)) = true := decide_eq_true (by omega)
        rw [decide_eq_false hf, Bool.false_and] at e1
        have E1 := Aside0.mk e1
        clear e1 hf
        go_wp2
        go_ret
        exact ⟨congrArg (fun b => Ending.returned (.bool b)) (show false = (P && O) by rw [E1.out]; rfl), HW.out⟩
    · have ek : P = true := by rw [HL.out, List.drop_eq_nil_of_le (by omega)]; rfl
      have EK := Aside0.mk ek
      clear ek
      go_wp2
      go_loopw [4] (fun i wr => ∃ k : Nat, k ≤ m.objects.length ∧ i = .int .i64 k ∧ Aside0 (O = (m.objects.drop k).all fun o => decide (o.f1.length ≤ 300)) ∧ wr = w.alloc (.cells cx 30 (0, 0))) (fun i _ => m.objects.length - (intOf i).toNat)
      case atStart => exact ⟨0, Nat.zero_le _, rfl, ⟨HOO.out.symm⟩, rfl⟩
      case round =>
        obtain ⟨j, hj, rfl, HL2, rfl⟩ := hrel
        by_cases hlt2 : j < m.objects.length
        · obtain ⟨ad, A1, cA1, rfl, x0, x1, gA, qA⟩ := at_T69 R21.out.1 (j : Int) (by omega) (by omega)
          rw [Int.toNat_natCast] at x1
          have y1 := (HW.out.cell (World.block_lt_of_cell? w _ x1)).trans x1
          have e1 := drop_all (fun o : S69 => decide (o.f1.length ≤ 300)) hlt2 z69
          rw [← HL2.out] at e1
          have e2 : rd_T69 m.objects (j : Int) = m.objects.getD j z69 := by unfold rd_T69; rw [Int.toNat_natCast]
          rw [e2] at y1 qA gA
          generalize (m.objects.getD j z69).f1 = f1 at *
          have qL : f1.length ≤ 9223372036854775807 := qA.2.1
          clear x0 x1 e2 qA gA
          by_cases hf : f1.length ≤ 300
          · have d1 : decide ((f1.length : Int) > 300) = false := decide_eq_false (by omega)
            have d2 : decide ((300 : Int) < (f1.length : Int)) = false := decide_eq_false (by omega)
            rw [decide_eq_true hf, Bool.true_and] at e1
            have E1 := Aside0.mk e1
            clear e1 hf
            go_wp2
            go_roundw
            case rel => exact ⟨j + 1, by omega, by go_num, E1, by first | rfl | trivial⟩
            case measure => simp [intOf]; omega
          · have d1 : decide ((f1.length : Int) > 300) = true := decide_eq_true (by omega)
            have d2 : decide ((300 : Int) < (f1.length : Int)) = true := decide_eq_true (by omega)
            rw [decide_eq_false hf, Bool.false_and] at e1
            have E1 := Aside0.mk e1
            clear e1 hf
            go_wp2
            go_ret
            exact ⟨congrArg (fun b => Ending.returned (.bool b)) (show false = (P && O) by rw [E1.out, Bool.and_false]), HW.out⟩
        · have eo : O = true := by rw [HL2.out, List.drop_eq_nil_of_le (by omega)]; rfl
          have EO := Aside0.mk eo
          clear eo
          go_wp2
          go_ret
          exact ⟨congrArg (fun b => Ending.returned (.bool b)) (show true = (P && O) by rw [EK.out, EO.out]; rfl), HW.out⟩
theorem few_msg {cx : Array Value} {x : Msg} {w : World} (hx : IsMsg w cx x) : Calls Try.prog 15 #[.agg cx] w fun e w' => e = .returned (.bool (fewB x)) ∧ Below w.heap.size w w' := by
  unfold fewB
  by_cases h : x.words.length ≤ 300 ∧ x.bits.length ≤ 2500 ∧ x.data.length ≤ 300 ∧ x.recs.length ≤ 50 ∧ x.objects.length ≤ 100
  · rw [decide_eq_true h, Bool.true_and]
    exact few_go hx h.1 h.2.1 h.2.2.1 h.2.2.2.1 h.2.2.2.2
  · rw [decide_eq_false h, Bool.false_and]
    exact few_no hx h
end Go.Proofs.Ytalaochocmcbcaa.Same
end
section
namespace Go.Proofs.Ytalaochocmcbcaa.Same
open Go.RowKit Go.Proofs.Ytalaochocmcbcaa.P Go.Proofs.Ytalaochocmcbcaa.E Go.Proofs.YtalaochocmcbcaaW.PrintWords Go.Proofs.YtalaochocmcbcaaW.PrintLast Go.Proofs.YtalaochocmcbcaaW.PrintMore
structure Two (w : World) (cx cy : Array Value) (t : TypeId) (W : World) : Prop where
  x : W.heap[w.heap.size]? = some (.cells cx t (0, 0))
  y : W.heap[w.heap.size + 1]? = some (.cells cy t (0, 0))
  b : Below w.heap.size w W
end Go.Proofs.Ytalaochocmcbcaa.Same
end
section
namespace Go.Proofs.Ytalaochocmcbcaa.Same
open Go.RowKit Go.Proofs.Ytalaochocmcbcaa.P Go.Proofs.Ytalaochocmcbcaa.E Go.Proofs.YtalaochocmcbcaaW.PrintWords Go.Proofs.YtalaochocmcbcaaW.PrintLast Go.Proofs.YtalaochocmcbcaaW.PrintMore
structure Up1 (g : Nat) (w w' : World) : Prop where
  os : w'.os = w.os
  tape : w'.tape = w.tape
  output : w'.output = w.output
  kept : Kept w w' (fun k => k = g)
theorem Up1.below {g B : Nat} {w w' : World} (h : Up1 g w w') (hB : B ≤ g) (hs : B ≤ w.heap.size) : Below B w w' := ⟨h.os, h.tape, h.output, h.kept.1, fun k hk => h.kept.2 k (by omega) (by omega)⟩
theorem Up1.blk {g k : Nat} {w w' : World} {o : Obj} (h : Up1 g w w') (hk : w.heap[k]? = some o) (hne : k ≠ g) : w'.heap[k]? = some o := blk_kept hk h.kept hne
theorem setCells_blk {w : World} {g : Nat} {cur cx : Array Value} {t : TypeId} (hb : w.heap[g]? = some (.cells cur t (0, 0))) (hs : cur.size = cx.size) : (w.setCells g 0 cx.toList).heap[g]? = some (.cells cx t (0, 0)) ∧ Up1 g w (w.setCells g 0 cx.toList) := by
  obtain ⟨cur', h1, h2, h3⟩ := setCells_row cx.toList 0 w cur hb (by simp [hs])
  have e : cur' = cx := by
    apply Array.ext'
    rw [h3]
    simp [hs]
  rw [e] at h1
  obtain ⟨a1, a2, a3, a4⟩ := setCells_same g cx.toList 0 w
  exact ⟨h1, a1, a2, a3, by rw [a4]; exact Nat.le_refl _, fun k hk hn => setCells_far cx.toList 0 k hn⟩
theorem run_store_row {P : Program} {w : World} {g : Nat} {cur cx : Array Value} {t ty : TypeId} (hb : w.heap[g]? = some (.cells cur t (0, 0))) (hs : cur.size = cx.size) (hi : (P.info? ty).map (·.size) = some cx.size) (h1 : cx.all (·.oneCell') = true) :
    (Instr.storeAt ty (.pointer (some ⟨g, 0, none⟩)) (.agg cx)).run P w = .ok () (w.setCells g 0 cx.toList) := by
  refine run_storeAt_mid w g 0 ty cx (fun j hj => ?_) hi h1
  rw [Nat.zero_add]
  have := blk_cell hb j
  have hj' : j < cur.size := by omega
  exact ⟨by rw [this]; simp [hj'], blk_frozen hb j⟩
theorem wpList_store_row {P : Program} {ops : Array Oper} {rest : List Oper} {op : Oper} {a : Act} {w : World} {Q : Exit → Act → World → Prop} (ty : TypeId) (x y : Operand) {g : Nat} {cur cx : Array Value} {t : TypeId}
    (ho : op.op = .store ty x y) (hgd : op.guard = none) (hx : a.eval x = .pointer (some ⟨g, 0, none⟩)) (hy : a.eval y = .agg cx) (hb : w.heap[g]? = some (.cells cur t (0, 0))) (hs : cur.size = cx.size) (hi : (P.info? ty).map (·.size) = some cx.size) (h1 : cx.all (·.oneCell') = true)
    (h : ∀ w', w'.heap[g]? = some (.cells cx t (0, 0)) → Up1 g w w' → wpList P ops Q rest (a.put op.dst undef) w') : wpList P ops Q (op :: rest) a w := by
  refine wpList_plain hgd fun _ hK => ?_
  unfold Oper.wp execOp
  have hr := run_store_row (P := P) (ty := ty) hb hs hi h1
  simp only [ho, hx, hy, hr, Sem.run_bind, Sem.run_pure, Result.andThen_ok]
  obtain ⟨b1, b2⟩ := setCells_blk hb hs
  exact hK _ _ (h _ b1 b2)
theorem gate_op {P : Program} {ops : Array Oper} {rest : List Oper} {op : Oper} {a : Act} {w : World} {Q : Exit → Act → World → Prop} {u : Op} (_ : op.op = u) (h : wpList P ops Q (op :: rest) a w) : wpList P ops Q (op :: rest) a w := h
def zeroM : Msg := ⟨0, 0, 0, 0, 0, 0, 0, 0, 0, 0, 0, 0, [], [], [], [], 0, 0, 0, 0, 0, []⟩
def zeroC : Array Value := #[.int .u8 0, .int .u8 0, .int .u16 0, .int .u16 0, .int .u16 0, .int .u16 0, .int .u16 0, .int .u16 0, .int .u16 0, .int .u16 0, .int .u16 0, .int .u16 0, .slice none 0 0, .slice none 0 0, .slice none 0 0, .slice none 0 0, .int .u8 0, .int .u8 0, .int .u8 0, .int .u8 0, .int .u8 0, .slice none 0 0]
theorem zero_good : goodM zeroM := by
  refine ⟨by decide, ?_, ?_, ?_⟩
  · intro x h; cases h
  · intro x h; cases h
  · intro x h; cases h
theorem nil_row {α : Type} (d : Kd α) (w : World) : Kd.C d w none ([] : List α).length [] ∧ ([] : List α).length ≤ 0 := ⟨Kd.C_nil d w, Nat.le_refl _⟩
theorem zero_is (w : World) : IsMsg w zeroC zeroM := by
  refine ⟨none, 0, none, 0, none, 0, none, 0, none, 0, ?_, zero_good, ?_⟩
  · rfl
  · exact ⟨nil_row _ w, nil_row _ w, nil_row _ w, nil_row _ w, nil_row _ w⟩
theorem run_alloc_msg (ev : Operand → Value) (o : Oper) (ho : o.op = .alloc 30) (W : World) : (execOp ev o).run Try.prog W = .ok (.value (.pointer (some ⟨W.heap.size, 0, none⟩))) (W.alloc (.cells zeroC 30 (0, 0))) := by
  unfold execOp
  rw [ho]
  kernel_rfl
theorem ev_alloc {ops : Array Oper} {rest : List Oper} {o : Oper} {a : Act} {w : World} {Q : Exit → Act → World → Prop} (ho : o.op = .alloc 30) (hgd : o.guard = none)
    (h : ∀ g w1, g = w.heap.size → w1.heap[g]? = some (.cells zeroC 30 (0, 0)) → Below w.heap.size w w1 → wpList Try.prog ops Q rest (a.put o.dst (.pointer (some ⟨g, 0, none⟩))) w1) : wpList Try.prog ops Q (o :: rest) a w :=
  Kd.event_run hgd (run_alloc_msg a.eval o ho w) (h _ _ rfl (blk_new w _) (below_alloc (Below.refl _ _) _))
theorem ev_build {P : Program} {ops : Array Oper} {rest : List Oper} {o : Oper} {a : Act} {w : World} {Q : Exit → Act → World → Prop} (cs : Array Value) (hgd : o.guard = none) (hrun : (execOp a.eval o).run P w = .ok (.value (.agg cs)) w)
    (h : ∀ cx, cx = cs → wpList P ops Q rest (a.put o.dst (.agg cx)) w) : wpList P ops Q (o :: rest) a w := Kd.event_run hgd hrun (h _ rfl)
theorem C_block (q : IntKind) (xs : List Int) {w : World} {g : Nat} {t : TypeId} (hb : w.heap[g]? = some (.cells (xs.map (Value.int q)).toArray t (0, 0))) (hl : xs.length ≤ 1000000) : Kd.C (Kd.int q) w (some ⟨g, 0, none⟩) xs.length xs := by
  refine Kd.C_of_reads (d := 0) ⟨rfl, by omega, fun _ => ⟨_, rfl, fun j hj => ?_⟩⟩
  have e : (⟨g, 0, none⟩ : Addr).add j = ⟨g, j, none⟩ := by unfold Addr.add; split <;> simp_all
  rw [e, blk_cell hb j]
  simp [hj]
theorem ev_lit {P : Program} {ops : Array Oper} {rest : List Oper} {o : Oper} {a : Act} {w : World} {Q : Exit → Act → World → Prop} (q : IntKind) (xs : List Int) (t : TypeId) (hgd : o.guard = none)
    (hrun : (execOp a.eval o).run P w = .ok (.value (.slice (some ⟨w.heap.size, 0, none⟩) xs.length xs.length)) (w.alloc (.cells (xs.map (Value.int q)).toArray t (0, 0)))) (hl : xs.length ≤ 1000000)
    (h : ∀ A c w1 bs, bs = xs → Kd.C (Kd.int q) w1 A bs.length bs → bs.length ≤ c → Below w.heap.size w w1 → wpList P ops Q rest (a.put o.dst (.slice A bs.length c)) w1) : wpList P ops Q (o :: rest) a w :=
  Kd.event_run hgd hrun (h _ _ _ xs rfl (C_block q xs (blk_new w _) hl) (Nat.le_refl _) (below_alloc (Below.refl _ _) _))
structure Held (w0 : World) (L : List (Nat × Array Value)) (W : World) : Prop where
  b : Below w0.heap.size w0 W
  h : ∀ p ∈ L, w0.heap.size ≤ p.1 ∧ W.heap[p.1]? = some (.cells p.2 30 (0, 0))
  d : L.Pairwise (fun p q => p.1 ≠ q.1)
theorem Held.start (w : World) : Held w [] w := ⟨Below.refl _ _, (fun p h => by cases h), List.Pairwise.nil⟩
theorem Held.on {w0 W W' : World} {L : List (Nat × Array Value)} (h : Held w0 L W) (hb : Below W.heap.size W W') : Held w0 L W' :=
  ⟨h.b.trans (hb.mono h.b.size), fun p hp => ⟨(h.h p hp).1, blk_below (h.h p hp).2 hb⟩, h.d⟩
theorem Held.at {w0 W : World} {L : List (Nat × Array Value)} (h : Held w0 L W) (i : Nat) {g : Nat} {cx : Array Value} (hi : L[i]? = some (g, cx)) : W.heap[g]? = some (.cells cx 30 (0, 0)) := (h.h (g, cx) (List.mem_of_getElem? hi)).2
theorem Held.new {w0 W W' : World} {L : List (Nat × Array Value)} {g : Nat} {cx : Array Value} (h : Held w0 L W) (hg : g = W.heap.size) (hblk : W'.heap[g]? = some (.cells cx 30 (0, 0))) (hb : Below W.heap.size W W') : Held w0 (L ++ [(g, cx)]) W' := by
  have h2 := h.on hb
  refine ⟨h2.b, fun p hp => ?_, List.pairwise_append.2 ⟨h.d, List.pairwise_singleton _ _, fun p hp q hq => ?_⟩⟩
  · rcases List.mem_append.1 hp with hp | hp
    · exact h2.h p hp
    · obtain rfl := List.mem_singleton.1 hp
      exact ⟨by rw [hg]; exact h.b.size, hblk⟩
  · obtain rfl := List.mem_singleton.1 hq
    have := blk_lt (h.h p hp).2
    show p.1 ≠ g
    omega
theorem Held.put {w0 W W' : World} {L : List (Nat × Array Value)} (h : Held w0 L W) (i : Nat) {g : Nat} {cx cy : Array Value} (hi : L[i]? = some (g, cx)) (hblk : W'.heap[g]? = some (.cells cy 30 (0, 0))) (hu : Up1 g W W') : Held w0 (L.set i (g, cy)) W' := by
  have hg := (h.h (g, cx) (List.mem_of_getElem? hi)).1
  obtain ⟨hlt, hval⟩ := List.getElem?_eq_some_iff.1 hi
  refine ⟨h.b.trans (hu.below hg h.b.size), fun p hp => ?_, ?_⟩
  · obtain ⟨j, hj, rfl⟩ := List.mem_iff_getElem.1 hp
    have hj' : j < L.length := by simpa using hj
    rw [List.getElem_set]
    split
    · exact ⟨hg, hblk⟩
    · rename_i hne
      have hmem := h.h L[j] (List.getElem_mem hj')
      refine ⟨hmem.1, hu.blk hmem.2 ?_⟩
      have hpw := List.pairwise_iff_getElem.1 h.d
      rcases Nat.lt_or_gt_of_ne hne with hl | hl
      · have := hpw i j hlt hj' hl
        rw [hval] at this
        exact fun e => this e.symm
      · have := hpw j i hj' hlt hl
        rw [hval] at this
        exact this
  · refine List.pairwise_iff_getElem.2 fun a b ha hb hab => ?_
    have ha' : a < L.length := by simpa using ha
    have hb' : b < L.length := by simpa using hb
    have hpw := List.pairwise_iff_getElem.1 h.d a b ha' hb' hab
    rw [List.getElem_set, List.getElem_set]
    split <;> split
    · rename_i e1 e2; omega
    · rename_i e1 _; subst e1; rw [hval] at hpw; exact hpw
    · rename_i _ e2; subst e2; rw [hval] at hpw; exact hpw
    · exact hpw
theorem ev_store {ops : Array Oper} {rest : List Oper} {op : Oper} {a : Act} {w w0 W0 : World} {Q : Exit → Act → World → Prop} {x y : Operand} {g : Nat} {L : List (Nat × Array Value)} {i : Nat} {cur cx : Array Value} {m : Msg}
    (ho : op.op = .store 30 x y) (hgd : op.guard = none) (hx : a.eval x = .pointer (some ⟨g, 0, none⟩)) (hy : a.eval y = .agg cx) (H : Held w0 L w) (hi : L[i]? = some (g, cur)) (hs : cur.size = 22) (M : IsMsg W0 cx m)
    (h : ∀ w', Held w0 (L.set i (g, cx)) w' → Up1 g w w' → wpList Try.prog ops Q rest (a.put op.dst undef) w') : wpList Try.prog ops Q (op :: rest) a w :=
  wpList_store_row 30 x y ho hgd hx hy (H.at i hi) (hs.trans M.size.symm) (msg_info M.size) M.one (fun w' h1 h2 => h w' (H.put i hi h1 h2) h2)
theorem ev_var {ops : Array Oper} {rest : List Oper} {o1 o2 : Oper} {a : Act} {w W0 : World} {Q : Exit → Act → World → Prop} {x y : Operand} {cx : Array Value} {m : Msg}
    (ho1 : o1.op = .alloc 30) (hg1 : o1.guard = none) (ho2 : o2.op = .store 30 x y) (hg2 : o2.guard = none) (hd2 : o2.dst = none) (M : IsMsg W0 cx m)
    (hx : (a.put o1.dst (.pointer (some ⟨w.heap.size, 0, none⟩))).eval x = .pointer (some ⟨w.heap.size, 0, none⟩)) (hy : (a.put o1.dst (.pointer (some ⟨w.heap.size, 0, none⟩))).eval y = .agg cx)
    (h : ∀ g w', g = w.heap.size → w'.heap[g]? = some (.cells cx 30 (0, 0)) → Below w.heap.size w w' → wpList Try.prog ops Q rest (a.put o1.dst (.pointer (some ⟨g, 0, none⟩))) w') : wpList Try.prog ops Q (o1 :: o2 :: rest) a w := by
  refine Kd.event_run hg1 (run_alloc_msg a.eval o1 ho1 w) ?_
  refine wpList_store_row 30 x y ho2 hg2 hx hy (blk_new w _) (M.size.symm ▸ rfl) (msg_info M.size) M.one (fun w' h1 h2 => ?_)
  rw [hd2]
  exact h _ w' rfl h1 ((below_alloc (Below.refl _ _) _).trans ((h2.below (Nat.le_refl _) (by simp)).mono (by simp)))
theorem ev_load {ops : Array Oper} {rest : List Oper} {op : Oper} {a : Act} {w w0 : World} {Q : Exit → Act → World → Prop} {x : Operand} {g : Nat} {L : List (Nat × Array Value)} {i : Nat} {cx : Array Value}
    (ho : op.op = .load 30 x) (hgd : op.guard = none) (hx : a.eval x = .pointer (some ⟨g, 0, none⟩)) (H : Held w0 L w) (hi : L[i]? = some (g, cx)) (hs : cx.size = 22)
    (h : wpList Try.prog ops Q rest (a.put op.dst (.agg cx)) w) : wpList Try.prog ops Q (op :: rest) a w :=
  wpList_load_row hgd 30 x ho g hx 30 cx (0, 0) _ (H.at i hi) Try.underlying30 rfl (msg_info hs) h
theorem ev_get {ops : Array Oper} {rest : List Oper} {op : Oper} {a : Act} {w : World} {Q : Exit → Act → World → Prop} {x : Operand} {g : Nat} {cx : Array Value} {m : Msg} {W0 : World}
    (ho : op.op = .load 30 x) (hgd : op.guard = none) (hx : a.eval x = .pointer (some ⟨g, 0, none⟩)) (hb : w.heap[g]? = some (.cells cx 30 (0, 0))) (M : IsMsg W0 cx m)
    (h : wpList Try.prog ops Q rest (a.put op.dst (.agg cx)) w) : wpList Try.prog ops Q (op :: rest) a w :=
  wpList_load_row hgd 30 x ho g hx 30 cx (0, 0) _ hb Try.underlying30 rfl (msg_info M.size) h
end Go.Proofs.Ytalaochocmcbcaa.Same
end
section
namespace Go.Proofs.Ytalaochocmcbcaa.Same
open Go.RowKit Go.Proofs.Ytalaochocmcbcaa.P Go.Proofs.Ytalaochocmcbcaa.E Go.Proofs.YtalaochocmcbcaaW.PrintWords Go.Proofs.YtalaochocmcbcaaW.PrintLast Go.Proofs.YtalaochocmcbcaaW.PrintMore
theorem good_code {m : Msg} (h : goodM m) {v : Int} (hv : 0 ≤ v ∧ v < 256) : goodM { m with code := v } := by
  obtain ⟨h1, h2⟩ := h
  refine ⟨?_, h2⟩
  simp only [okM, u8B, u16B, Bool.and_eq_true, decide_eq_true_eq] at h1 ⊢
  simp only [h1, hv, and_self, true_and]
theorem set_code {W : World} {cx : Array Value} {m : Msg} (h : IsMsg W cx m) {v : Int} (hv : 0 ≤ v ∧ v < 256) : IsMsg W (cx.setIfInBounds 0 (.int .u8 v)) { m with code := v } := by
  obtain ⟨A12, c12, A13, c13, A14, c14, A15, c15, A21, c21, rfl, ok, h12, h13, h14, h15, h21⟩ := h
  exact ⟨A12, c12, A13, c13, A14, c14, A15, c15, A21, c21, by simp, good_code ok hv, h12, h13, h14, h15, h21⟩
theorem good_value {m : Msg} (h : goodM m) {v : Int} (hv : 0 ≤ v ∧ v < 65536) : goodM { m with value := v } := by
  obtain ⟨h1, h2⟩ := h
  refine ⟨?_, h2⟩
  simp only [okM, u8B, u16B, Bool.and_eq_true, decide_eq_true_eq] at h1 ⊢
  simp only [h1, hv, and_self, true_and]
theorem set_value {W : World} {cx : Array Value} {m : Msg} (h : IsMsg W cx m) {v : Int} (hv : 0 ≤ v ∧ v < 65536) : IsMsg W (cx.setIfInBounds 4 (.int .u16 v)) { m with value := v } := by
  obtain ⟨A12, c12, A13, c13, A14, c14, A15, c15, A21, c21, rfl, ok, h12, h13, h14, h15, h21⟩ := h
  exact ⟨A12, c12, A13, c13, A14, c14, A15, c15, A21, c21, by simp, good_value ok hv, h12, h13, h14, h15, h21⟩
theorem good_sub {m : Msg} (h : goodM m) {v : Int} (hv : 0 ≤ v ∧ v < 65536) : goodM { m with sub := v } := by
  obtain ⟨h1, h2⟩ := h
  refine ⟨?_, h2⟩
  simp only [okM, u8B, u16B, Bool.and_eq_true, decide_eq_true_eq] at h1 ⊢
  simp only [h1, hv, and_self, true_and]
theorem set_sub {W : World} {cx : Array Value} {m : Msg} (h : IsMsg W cx m) {v : Int} (hv : 0 ≤ v ∧ v < 65536) : IsMsg W (cx.setIfInBounds 8 (.int .u16 v)) { m with sub := v } := by
  obtain ⟨A12, c12, A13, c13, A14, c14, A15, c15, A21, c21, rfl, ok, h12, h13, h14, h15, h21⟩ := h
  exact ⟨A12, c12, A13, c13, A14, c14, A15, c15, A21, c21, by simp, good_sub ok hv, h12, h13, h14, h15, h21⟩
theorem good_status {m : Msg} (h : goodM m) {v : Int} (hv : 0 ≤ v ∧ v < 65536) : goodM { m with status := v } := by
  obtain ⟨h1, h2⟩ := h
  refine ⟨?_, h2⟩
  simp only [okM, u8B, u16B, Bool.and_eq_true, decide_eq_true_eq] at h1 ⊢
  simp only [h1, hv, and_self, true_and]
theorem set_status {W : World} {cx : Array Value} {m : Msg} (h : IsMsg W cx m) {v : Int} (hv : 0 ≤ v ∧ v < 65536) : IsMsg W (cx.setIfInBounds 9 (.int .u16 v)) { m with status := v } := by
  obtain ⟨A12, c12, A13, c13, A14, c14, A15, c15, A21, c21, rfl, ok, h12, h13, h14, h15, h21⟩ := h
  exact ⟨A12, c12, A13, c13, A14, c14, A15, c15, A21, c21, by simp, good_status ok hv, h12, h13, h14, h15, h21⟩
theorem good_events {m : Msg} (h : goodM m) {v : Int} (hv : 0 ≤ v ∧ v < 65536) : goodM { m with events := v } := by
  obtain ⟨h1, h2⟩ := h
  refine ⟨?_, h2⟩
  simp only [okM, u8B, u16B, Bool.and_eq_true, decide_eq_true_eq] at h1 ⊢
  simp only [h1, hv, and_self, true_and]
theorem set_events {W : World} {cx : Array Value} {m : Msg} (h : IsMsg W cx m) {v : Int} (hv : 0 ≤ v ∧ v < 65536) : IsMsg W (cx.setIfInBounds 10 (.int .u16 v)) { m with events := v } := by
  obtain ⟨A12, c12, A13, c13, A14, c14, A15, c15, A21, c21, rfl, ok, h12, h13, h14, h15, h21⟩ := h
  exact ⟨A12, c12, A13, c13, A14, c14, A15, c15, A21, c21, by simp, good_events ok hv, h12, h13, h14, h15, h21⟩
theorem good_messages {m : Msg} (h : goodM m) {v : Int} (hv : 0 ≤ v ∧ v < 65536) : goodM { m with messages := v } := by
  obtain ⟨h1, h2⟩ := h
  refine ⟨?_, h2⟩
  simp only [okM, u8B, u16B, Bool.and_eq_true, decide_eq_true_eq] at h1 ⊢
  simp only [h1, hv, and_self, true_and]
theorem set_messages {W : World} {cx : Array Value} {m : Msg} (h : IsMsg W cx m) {v : Int} (hv : 0 ≤ v ∧ v < 65536) : IsMsg W (cx.setIfInBounds 11 (.int .u16 v)) { m with messages := v } := by
  obtain ⟨A12, c12, A13, c13, A14, c14, A15, c15, A21, c21, rfl, ok, h12, h13, h14, h15, h21⟩ := h
  exact ⟨A12, c12, A13, c13, A14, c14, A15, c15, A21, c21, by simp, good_messages ok hv, h12, h13, h14, h15, h21⟩
theorem set_words {W : World} {cx : Array Value} {m : Msg} (h : IsMsg W cx m) {A : Option Addr} {n : Nat} {l : List Int} (hn : l.length ≤ n) (hg : ∀ x ∈ l, 0 ≤ x ∧ x < 65536) (hr : Kd.C (Kd.int .u16) W A l.length l) : IsMsg W (cx.setIfInBounds 12 (.slice A l.length n)) { m with words := l } := by
  obtain ⟨A12, c12, A13, c13, A14, c14, A15, c15, A21, c21, rfl, ok, h12, h13, h14, h15, h21⟩ := h
  exact ⟨A, n, A13, c13, A14, c14, A15, c15, A21, c21, by simp, ⟨ok.1, hg, ok.2.2⟩, ⟨hr, hn⟩, h13, h14, h15, h21⟩
theorem good_data {m : Msg} (h : goodM m) {l : List Int} (hg : isBytes l) : goodM { m with data := l } := by
  obtain ⟨h1, h2⟩ := h
  refine ⟨?_, h2⟩
  simp only [okM, u8B, u16B, Bool.and_eq_true, decide_eq_true_eq, List.all_eq_true] at h1 ⊢
  exact ⟨⟨h1.1.1, fun x hx => hg x hx⟩, h1.2⟩
theorem set_data {W : World} {cx : Array Value} {m : Msg} (h : IsMsg W cx m) {A : Option Addr} {n : Nat} {l : List Int} (hn : l.length ≤ n) (hg : isBytes l) (hr : Kd.C (Kd.int .u8) W A l.length l) : IsMsg W (cx.setIfInBounds 14 (.slice A l.length n)) { m with data := l } := by
  obtain ⟨A12, c12, A13, c13, A14, c14, A15, c15, A21, c21, rfl, ok, h12, h13, h14, h15, h21⟩ := h
  exact ⟨A12, c12, A13, c13, A, n, A15, c15, A21, c21, by simp, good_data ok hg, h12, h13, ⟨hr, hn⟩, h15, h21⟩
def NilL (cx : Array Value) : Prop := ∀ (i : Nat) A n, (i = 15 ∨ i = 21) → cx[i]? = some (.slice A 0 n) → A = none ∧ n = 0
theorem NilL.set {cx : Array Value} (h : NilL cx) {i : Nat} (hi : i ≠ 15 ∧ i ≠ 21) {v : Value} : NilL (cx.setIfInBounds i v) := by
  intro j A n hj e
  refine h j A n hj ?_
  rwa [Array.getElem?_setIfInBounds_ne (by omega)] at e
end Go.Proofs.Ytalaochocmcbcaa.Same
end
section
namespace Go.Proofs.Ytalaochocmcbcaa.PS
open Go.RowKit Go.Proofs.Ytalaochocmcbcaa.P Go.Proofs.Ytalaochocmcbcaa.E Go.Proofs.Ytalaochocmcbcaa.Cur Go.Proofs.Ytalaochocmcbcaa.RCur Go.Proofs.Ytalaochocmcbcaa.Cu Go.Proofs.Ytalaochocmcbcaa.Same Go.Proofs.YtalaochocmcbcaaW.PrintWords Go.Proofs.YtalaochocmcbcaaW.PrintLast Go.Proofs.YtalaochocmcbcaaW.PrintMore
structure St (w0 : World) (gr g gm : Nat) (w : World) (c : Cu) (m : Msg) : Prop where
  b : Below w0.heap.size w0 w
  cur : ∃ lo hi, PAt lo hi w g c ∧ (gm < lo ∨ hi ≤ gm) ∧ (gr < lo ∨ hi ≤ gr)
  cx : ∃ cx, w.heap[gm]? = some (.cells cx 30 (0, 0)) ∧ ∀ W', Kept w W' (fun k => k = g ∨ k = gm ∨ k = gr ∨ k < w0.heap.size) → IsMsg W' cx m
  res : w.heap[gr]? = some (.cells zeroC 30 (0, 0))
  h1 : w0.heap.size ≤ g ∧ w0.heap.size ≤ gm ∧ w0.heap.size ≤ gr
  h2 : gm ≠ g ∧ gr ≠ g ∧ gr ≠ gm
  nl : ∃ cx, w.heap[gm]? = some (.cells cx 30 (0, 0)) ∧ NilL cx
section
variable {w0 w w' : World} {gr g gm : Nat} {c c' : Cu} {m m' : Msg}
theorem St.upd (h : St w0 gr g gm w c m) (k : Upd g w w') (hc : ∃ lo hi, PAt lo hi w' g c' ∧ (gm < lo ∨ hi ≤ gm) ∧ (gr < lo ∨ hi ≤ gr)) : St w0 gr g gm w' c' m := by
  obtain ⟨cx, a1, a2⟩ := h.cx
  refine ⟨h.b.trans (k.below h.h1.1 h.b.size), hc, ⟨cx, blk_kept a1 k.kept h.h2.1, fun W' hk => a2 W' ((k.kept.mono fun j hj => .inl hj).then_ hk (fun j hj => .inl hj))⟩, blk_kept h.res k.kept h.h2.2.1, h.h1, h.h2, by obtain ⟨cy, n1, n2⟩ := h.nl; exact ⟨cy, blk_kept n1 k.kept h.h2.1, n2⟩⟩
theorem St.good (h : St w0 gr g gm w c m) : c.good := by
  obtain ⟨lo, hi, a, _⟩ := h.cur
  exact a.2
theorem St.below (h : St w0 gr g gm w c m) (hb : Below w.heap.size w w') : St w0 gr g gm w' c m := by
  obtain ⟨cx, a1, a2⟩ := h.cx
  refine ⟨h.b.trans (hb.mono h.b.size), ?_, ⟨cx, blk_below a1 hb, fun W' hk => a2 W' ((Kept.of_below hb _).then_ hk (fun j hj => .inl hj))⟩, blk_below h.res hb, h.h1, h.h2, by obtain ⟨cy, n1, n2⟩ := h.nl; exact ⟨cy, blk_below n1 hb, n2⟩⟩
  obtain ⟨lo, hi, a, s1, s2⟩ := h.cur
  exact ⟨lo, hi, a.below hb, s1, s2⟩
theorem St.byte (h : St w0 gr g gm w c m) : Calls Try.prog 45 #[.pointer (some ⟨g, 0, none⟩)] w fun en w' => en = .returned (.int .u8 c.byteV) ∧ St w0 gr g gm w' c.byteS m := by
  obtain ⟨lo, hi, hc, s1, s2⟩ := h.cur
  refine (p_byte hc).mono ?_
  rintro en w' ⟨rfl, b1, b2⟩
  exact ⟨rfl, h.upd b2 ⟨lo, hi, b1, s1, s2⟩⟩
theorem St.bytes (h : St w0 gr g gm w c m) (n : Int) : Calls Try.prog 47 #[.pointer (some ⟨g, 0, none⟩), .int .i64 n] w fun en w' => ∃ A' c', en = .returned (.slice A' (c.bytesV n).length c') ∧ (c.bytesV n).length ≤ c' ∧ (∀ W', Kept w' W' (fun k => k = g ∨ k = gm ∨ k = gr ∨ k < w0.heap.size) → Kd.C (Kd.int .u8) W' A' (c.bytesV n).length (c.bytesV n)) ∧ St w0 gr g gm w' (c.bytesS n) m := by
  obtain ⟨cx, a1, a2⟩ := h.cx
  have lm := blk_lt a1
  have lr := blk_lt h.res
  obtain ⟨lo, hi, hc, s1, s2⟩ := h.cur
  refine (p_bytes hc n).mono ?_
  rintro en w' ⟨A', c', rfl, b1, b2, b3, b4⟩
  refine ⟨A', c', rfl, b1, fun W' hk => (b2.on (hk.mono fun j hj => ?_)).now, h.upd b4 ⟨lo, hi, b3, s1, s2⟩⟩
  have lg := hc.1.lt
  have hb0 := h.b.size
  rcases hj with rfl | rfl | rfl | hj <;> exact .inl (by omega)
theorem St.words (h : St w0 gr g gm w c m) (n : Int) : Calls Try.prog 42 #[.pointer (some ⟨g, 0, none⟩), .int .i64 n] w fun en w' => ∃ A' c', en = .returned (.slice A' (c.wordsV n).length c') ∧ (c.wordsV n).length ≤ c' ∧ (∀ W', Kept w' W' (fun k => k = g ∨ k = gm ∨ k = gr ∨ k < w0.heap.size) → Kd.C (Kd.int .u16) W' A' (c.wordsV n).length (c.wordsV n)) ∧ St w0 gr g gm w' (c.wordsS n) m := by
  obtain ⟨cx, a1, a2⟩ := h.cx
  have lm := blk_lt a1
  have lr := blk_lt h.res
  obtain ⟨lo, hi, hc, s1, s2⟩ := h.cur
  refine (p_words hc n).mono ?_
  rintro en w' ⟨A', c', rfl, b1, b2, b3, b4⟩
  refine ⟨A', c', rfl, b1, fun W' hk => (b2.on (hk.mono fun j hj => ?_)).now, h.upd b4 ⟨lo, hi, b3, s1, s2⟩⟩
  have lg := hc.1.lt
  have hb0 := h.b.size
  rcases hj with rfl | rfl | rfl | hj <;> exact .inl (by omega)
theorem St.word (h : St w0 gr g gm w c m) : Calls Try.prog 39 #[.pointer (some ⟨g, 0, none⟩)] w fun en w' => en = .returned (.int .u16 c.wordV) ∧ St w0 gr g gm w' c.wordS m := by
  obtain ⟨lo, hi, hc, s1, s2⟩ := h.cur
  refine (p_word hc).mono ?_
  rintro en w' ⟨rfl, b1, b2⟩
  exact ⟨rfl, h.upd b2 ⟨lo, hi, b1, s1, s2⟩⟩
theorem St.need (h : St w0 gr g gm w c m) (ok : Bool) (f : Int) : Calls Try.prog 40 #[.pointer (some ⟨g, 0, none⟩), .bool ok, .int .i64 f] w fun en w' => en = .returned (.tuple #[]) ∧ St w0 gr g gm w' (c.need ok f) m := by
  obtain ⟨lo, hi, hc, s1, s2⟩ := h.cur
  refine (p_need hc ok f).mono ?_
  rintro en w' ⟨rfl, b1, b2⟩
  exact ⟨rfl, h.upd b2 ⟨lo, hi, b1, s1, s2⟩⟩
theorem St.fin (h : St w0 gr g gm w c m) : Calls Try.prog 23 #[.pointer (some ⟨g, 0, none⟩)] w fun en w' => en = .returned (.tuple #[]) ∧ St w0 gr g gm w' c.fin m := by
  obtain ⟨lo, hi, hc, s1, s2⟩ := h.cur
  refine (p_end hc).mono ?_
  rintro en w' ⟨rfl, b1, b2⟩
  exact ⟨rfl, h.upd b2 ⟨lo, hi, b1, s1, s2⟩⟩
theorem St.left (h : St w0 gr g gm w c m) : Calls Try.prog 44 #[.pointer (some ⟨g, 0, none⟩)] w fun en w' => en = .returned (.int .i64 c.xs.length) ∧ St w0 gr g gm w' c m := by
  obtain ⟨lo, hi, hc, s1, s2⟩ := h.cur
  refine (p_left hc).mono ?_
  rintro en w' ⟨rfl, rfl⟩
  exact ⟨rfl, h⟩
theorem St.err (h : St w0 gr g gm w c m) : Calls Try.prog 24 #[.pointer (some ⟨g, 0, none⟩)] w fun en w' => en = .returned (.int .i64 c.e) ∧ St w0 gr g gm w' c m := by
  obtain ⟨lo, hi, hc, s1, s2⟩ := h.cur
  refine (p_err hc).mono ?_
  rintro en w' ⟨rfl, rfl⟩
  exact ⟨rfl, h⟩
theorem St.put (h : St w0 gr g gm w c m) (i : Nat) (v : Value) (hi : i ≠ 15 ∧ i ≠ 21) (hm : ∀ W' cx, Kept w W' (fun k => k = g ∨ k = gm ∨ k = gr ∨ k < w0.heap.size) → IsMsg W' cx m → IsMsg W' (cx.setIfInBounds i v) m') : St w0 gr g gm (w.setCell ⟨gm, i, none⟩ v) c m' := by
  obtain ⟨cx, a1, a2⟩ := h.cx
  have hk : Kept w (w.setCell ⟨gm, i, none⟩ v) (fun k => k = gm) := (Kept.refl w (fun k => k = gm)).setCell (p := ⟨gm, i, none⟩) (.inl rfl) v
  refine ⟨below_set h.b h.h1.2.1, ?_, ⟨_, blk_put a1 i v rfl, fun W' k => ?_⟩, blk_kept h.res hk h.h2.2.2, h.h1, h.h2, by obtain ⟨cy, n1, n2⟩ := h.nl; exact ⟨_, blk_put n1 i v rfl, n2.set hi⟩⟩
  · obtain ⟨lo, hi, a, s1, s2⟩ := h.cur
    exact ⟨lo, hi, a.on hk (fun k e => by rw [e]; exact s1) (fun e => h.h2.1 e.symm), s1, s2⟩
  · have k2 : Kept w W' (fun k => k = g ∨ k = gm ∨ k = gr ∨ k < w0.heap.size) := (hk.mono fun j hj => .inr (.inl hj)).then_ k (fun j hj => .inl hj)
    exact hm W' cx k2 (a2 W' k2)
theorem St.put_value (h : St w0 gr g gm w c m) {v : Int} (hv : 0 ≤ v ∧ v < 65536) : St w0 gr g gm (w.setCell ⟨gm, 4, none⟩ (.int .u16 v)) c { m with value := v } :=
  h.put 4 _ (by decide) fun W' cx _ hm => set_value hm hv
theorem St.put_sub (h : St w0 gr g gm w c m) {v : Int} (hv : 0 ≤ v ∧ v < 65536) : St w0 gr g gm (w.setCell ⟨gm, 8, none⟩ (.int .u16 v)) c { m with sub := v } :=
  h.put 8 _ (by decide) fun W' cx _ hm => set_sub hm hv
theorem St.put_status (h : St w0 gr g gm w c m) {v : Int} (hv : 0 ≤ v ∧ v < 65536) : St w0 gr g gm (w.setCell ⟨gm, 9, none⟩ (.int .u16 v)) c { m with status := v } :=
  h.put 9 _ (by decide) fun W' cx _ hm => set_status hm hv
theorem St.put_events (h : St w0 gr g gm w c m) {v : Int} (hv : 0 ≤ v ∧ v < 65536) : St w0 gr g gm (w.setCell ⟨gm, 10, none⟩ (.int .u16 v)) c { m with events := v } :=
  h.put 10 _ (by decide) fun W' cx _ hm => set_events hm hv
theorem St.put_messages (h : St w0 gr g gm w c m) {v : Int} (hv : 0 ≤ v ∧ v < 65536) : St w0 gr g gm (w.setCell ⟨gm, 11, none⟩ (.int .u16 v)) c { m with messages := v } :=
  h.put 11 _ (by decide) fun W' cx _ hm => set_messages hm hv
theorem St.put_words (h : St w0 gr g gm w c m) {A : Option Addr} {n : Nat} {l : List Int} (hn : l.length ≤ n) (hg : ∀ x ∈ l, 0 ≤ x ∧ x < 65536) (hr : ∀ W', Kept w W' (fun k => k = g ∨ k = gm ∨ k = gr ∨ k < w0.heap.size) → Kd.C (Kd.int .u16) W' A l.length l) : St w0 gr g gm (w.setCell ⟨gm, 12, none⟩ (.slice A l.length n)) c { m with words := l } :=
  h.put 12 _ (by decide) fun W' cx k hm => set_words hm hn hg (hr W' k)
theorem St.put_data (h : St w0 gr g gm w c m) {A : Option Addr} {n : Nat} {l : List Int} (hn : l.length ≤ n) (hg : isBytes l) (hr : ∀ W', Kept w W' (fun k => k = g ∨ k = gm ∨ k = gr ∨ k < w0.heap.size) → Kd.C (Kd.int .u8) W' A l.length l) : St w0 gr g gm (w.setCell ⟨gm, 14, none⟩ (.slice A l.length n)) c { m with data := l } :=
  h.put 14 _ (by decide) fun W' cx k hm => set_data hm hn hg (hr W' k)
theorem St.at_code (h : St w0 gr g gm w c m) : w.cell? ⟨gm, 0, none⟩ = some (.int .u8 m.code) ∧ w.frozen? ⟨gm, 0, none⟩ = false := by
  obtain ⟨cx, a1, a2⟩ := h.cx
  exact ⟨bx_code a1 (a2 w (Kept.refl _ _)), blk_frozen a1 0⟩
theorem St.at_value (h : St w0 gr g gm w c m) : w.cell? ⟨gm, 4, none⟩ = some (.int .u16 m.value) ∧ w.frozen? ⟨gm, 4, none⟩ = false := by
  obtain ⟨cx, a1, a2⟩ := h.cx
  exact ⟨bx_value a1 (a2 w (Kept.refl _ _)), blk_frozen a1 4⟩
theorem St.at_sub (h : St w0 gr g gm w c m) : w.cell? ⟨gm, 8, none⟩ = some (.int .u16 m.sub) ∧ w.frozen? ⟨gm, 8, none⟩ = false := by
  obtain ⟨cx, a1, a2⟩ := h.cx
  exact ⟨bx_sub a1 (a2 w (Kept.refl _ _)), blk_frozen a1 8⟩
theorem St.at_status (h : St w0 gr g gm w c m) : w.cell? ⟨gm, 9, none⟩ = some (.int .u16 m.status) ∧ w.frozen? ⟨gm, 9, none⟩ = false := by
  obtain ⟨cx, a1, a2⟩ := h.cx
  exact ⟨bx_status a1 (a2 w (Kept.refl _ _)), blk_frozen a1 9⟩
theorem St.at_events (h : St w0 gr g gm w c m) : w.cell? ⟨gm, 10, none⟩ = some (.int .u16 m.events) ∧ w.frozen? ⟨gm, 10, none⟩ = false := by
  obtain ⟨cx, a1, a2⟩ := h.cx
  exact ⟨bx_events a1 (a2 w (Kept.refl _ _)), blk_frozen a1 10⟩
theorem St.at_messages (h : St w0 gr g gm w c m) : w.cell? ⟨gm, 11, none⟩ = some (.int .u16 m.messages) ∧ w.frozen? ⟨gm, 11, none⟩ = false := by
  obtain ⟨cx, a1, a2⟩ := h.cx
  exact ⟨bx_messages a1 (a2 w (Kept.refl _ _)), blk_frozen a1 11⟩
theorem St.at_words (h : St w0 gr g gm w c m) : ∃ A n, w.cell? ⟨gm, 12, none⟩ = some (.slice A m.words.length n) ∧ w.frozen? ⟨gm, 12, none⟩ = false := by
  obtain ⟨cx, a1, a2⟩ := h.cx
  obtain ⟨A12, c12, A13, c13, A14, c14, A15, c15, A21, c21, l, _⟩ := (a2 w (Kept.refl _ _)).lists
  exact ⟨A12, c12, (blk_cell a1 12).trans l.1, blk_frozen a1 12⟩
theorem St.at_data (h : St w0 gr g gm w c m) : ∃ A n, w.cell? ⟨gm, 14, none⟩ = some (.slice A m.data.length n) ∧ w.frozen? ⟨gm, 14, none⟩ = false := by
  obtain ⟨cx, a1, a2⟩ := h.cx
  obtain ⟨A12, c12, A13, c13, A14, c14, A15, c15, A21, c21, l, _⟩ := (a2 w (Kept.refl _ _)).lists
  exact ⟨A14, c14, (blk_cell a1 14).trans l.2.2.1, blk_frozen a1 14⟩
theorem St.held (h : St w0 gr g gm w c m) : Held w0 [(gr, zeroC)] w := ⟨h.b, fun p hp => by obtain rfl := List.mem_singleton.1 hp; exact ⟨h.h1.2.2, h.res⟩, List.pairwise_singleton _ _⟩
theorem St.held3 (h : St w0 gr g gm w c m) : ∃ cx, Held w0 [(gr, zeroC), (gm, cx)] w ∧ cx.size = 22 ∧ ∀ w', Up1 gr w w' → IsMsg w' cx m ∧ ∀ W', Kept w' W' (fun k => k < w0.heap.size) → IsMsg W' cx m := by
  obtain ⟨cx, a1, a2⟩ := h.cx
  refine ⟨cx, ⟨h.b, fun p hp => ?_, ?_⟩, (a2 w (Kept.refl _ _)).size, fun w' hu => ⟨a2 w' (hu.kept.mono fun j hj => .inr (.inr (.inl hj))), fun W' hk => a2 W' ((hu.kept.mono fun j hj => .inr (.inr (.inl hj))).then_ (hk.mono fun j hj => .inr (.inr (.inr hj))) (fun j hj => .inl hj))⟩⟩
  · rcases List.mem_cons.1 hp with rfl | hp
    · exact ⟨h.h1.2.2, h.res⟩
    · obtain rfl := List.mem_singleton.1 hp
      exact ⟨h.h1.2.1, a1⟩
  · refine List.pairwise_cons.2 ⟨fun q hq => ?_, List.pairwise_singleton _ _⟩
    obtain rfl := List.mem_singleton.1 hq
    exact h.h2.2.2
end
theorem zero_nil : NilL zeroC := by
  intro i A n hi e
  rcases hi with rfl | rfl <;> exact ⟨(Value.slice.inj (Option.some.inj e)).1.symm, (Value.slice.inj (Option.some.inj e)).2.2.symm⟩
structure Nw (w0 : World) (gr g : Nat) (w : World) (c : Cu) : Prop where
  b : Below w0.heap.size w0 w
  cur : ∃ lo, PAt lo g w g c ∧ gr < lo
  res : w.heap[gr]? = some (.cells zeroC 30 (0, 0))
  h1 : w0.heap.size ≤ g ∧ w0.heap.size ≤ gr
end Go.Proofs.Ytalaochocmcbcaa.PS
end
section
namespace Go.Proofs.Ytalaochocmcbcaa.QS
open Go.RowKit Go.Proofs.Ytalaochocmcbcaa.P Go.Proofs.Ytalaochocmcbcaa.E Go.Proofs.Ytalaochocmcbcaa.Cur Go.Proofs.Ytalaochocmcbcaa.RCur Go.Proofs.Ytalaochocmcbcaa.Cu Go.Proofs.Ytalaochocmcbcaa.Same Go.Proofs.YtalaochocmcbcaaW.PrintWords Go.Proofs.YtalaochocmcbcaaW.PrintLast Go.Proofs.YtalaochocmcbcaaW.PrintMore
structure St (w0 : World) (gr g gm : Nat) (w : World) (c : Cu) (m : Msg) : Prop where
  b : Below w0.heap.size w0 w
  cur : QAt w0.heap.size w g c
  cx : ∃ cx, w.heap[gm]? = some (.cells cx 30 (0, 0)) ∧ ∀ W', Kept w W' (fun k => k = g ∨ k = gm ∨ k = gr) → IsMsg W' cx m
  res : w.heap[gr]? = some (.cells zeroC 30 (0, 0))
  h1 : w0.heap.size ≤ g ∧ w0.heap.size ≤ gm ∧ w0.heap.size ≤ gr
  h2 : gm ≠ g ∧ gr ≠ g ∧ gr ≠ gm
  nl : ∃ cx, w.heap[gm]? = some (.cells cx 30 (0, 0)) ∧ NilL cx
section
variable {w0 w w' : World} {gr g gm : Nat} {c c' : Cu} {m m' : Msg}
end
structure Nw (w0 : World) (gr g : Nat) (w : World) (c : Cu) : Prop where
  b : Below w0.heap.size w0 w
  cur : QAt w0.heap.size w g c
  res : w.heap[gr]? = some (.cells zeroC 30 (0, 0))
  h1 : w0.heap.size ≤ g ∧ w0.heap.size ≤ gr
  h2 : gr ≠ g
end Go.Proofs.Ytalaochocmcbcaa.QS
end
section
namespace Go.Proofs.Ytalaochocmcbcaa.Cu
open Go.RowKit Go.Proofs.Ytalaochocmcbcaa.E Go.Proofs.Ytalaochocmcbcaa.Cur Go.Proofs.YtalaochocmcbcaaW.PrintWords Go.Proofs.YtalaochocmcbcaaW.PrintLast Go.Proofs.YtalaochocmcbcaaW.PrintMore
def cu (l : List Int) : Cu := ⟨l, false, 0⟩
theorem need_true (c : Cu) (f : Int) : c.need true f = c := by unfold Cu.need; simp
theorem need_dead {c : Cu} (h : c.e ≠ 0) (ok : Bool) (f : Int) : c.need ok f = c := by
  unfold Cu.need
  rw [if_neg (fun hh => h hh.1)]
theorem bytesS_dead {c : Cu} (h : c.e ≠ 0) (n : Int) : (c.bytesS n).e = c.e := by
  unfold Cu.bytesS
  split
  · rfl
  · simp only [Cu.fail, fstE]
    rw [if_neg h]
theorem need_ok {c : Cu} {ok : Bool} {f : Int} (hf : f ≠ 0) (h : (c.need ok f).e = 0) : c.e = 0 ∧ ok = true ∧ c.need ok f = c := by
  cases ok with
  | true => rw [need_true] at h ⊢; exact ⟨h, rfl, rfl⟩
  | false =>
    by_cases he : c.e = 0
    · exfalso
      unfold Cu.need at h
      rw [if_pos ⟨he, rfl⟩] at h
      exact hf h
    · rw [need_dead he] at h
      exact absurd h he
theorem need_ok' {xs : List Int} {ok : Bool} {f : Int} (h : ((cu xs).need ok f).e = 0) : (cu xs).need ok f = cu xs := by
  cases ok with
  | true => exact need_true _ _
  | false =>
    unfold Cu.need cu at h ⊢
    simp only [and_self, if_true] at h ⊢
    rw [h]
theorem bytes_ok {c : Cu} {n : Int} (h : (c.bytesS n).e = 0) : c.e = 0 ∧ c.s = false ∧ 0 ≤ n ∧ n ≤ (c.xs.length : Int) ∧ c.bytesS n = cu (c.xs.drop n.toNat) ∧ c.bytesV n = c.xs.take n.toNat := by
  have he : c.e = 0 := by
    by_cases he : c.e = 0
    · exact he
    · rw [bytesS_dead he] at h; exact h
  by_cases hk : c.okB n = true
  · obtain ⟨h1, h2, h3⟩ := (Cu.okB_iff c n).1 hk
    refine ⟨he, h1, h2, h3, ?_, ?_⟩
    · unfold Cu.bytesS cu; rw [if_pos hk, h1, he]
    · unfold Cu.bytesV; rw [if_pos hk]
  · exfalso
    unfold Cu.bytesS at h
    rw [if_neg hk] at h
    simp only [Cu.fail, fstE] at h
    rw [if_pos he] at h
    exact absurd h (by decide)
theorem byte_ok {c : Cu} (h : c.byteS.e = 0) : c.e = 0 ∧ c.s = false ∧ ∃ t, c.xs = c.byteV :: t ∧ c.byteS = cu t := by
  obtain ⟨h1, h2, h3, h4, h5, h6⟩ := bytes_ok (n := 1) h
  cases hx : c.xs with
  | nil => rw [hx] at h4; simp at h4
  | cons x t =>
    refine ⟨h1, h2, t, ?_, ?_⟩
    · unfold Cu.byteV; rw [h6, hx]; rfl
    · show c.bytesS 1 = _
      rw [h5, hx]; rfl
theorem fin_ok {c : Cu} (h : c.fin.e = 0) : c.e = 0 ∧ c.xs = [] := by
  obtain ⟨h1, h2, h3⟩ := need_ok (by decide) h
  exact ⟨h1, by simpa using h2⟩
theorem okB_cu (l : List Int) (n : Nat) (h : n ≤ l.length) : (cu l).okB (n : Int) = true := by
  rw [Cu.okB_iff]
  exact ⟨rfl, by omega, by show (n : Int) ≤ (l.length : Int); omega⟩
theorem bytesV_app (u t : List Int) {n : Int} (hn : n = (u.length : Int)) : (cu (u ++ t)).bytesV n = u := by
  subst hn
  unfold Cu.bytesV
  rw [if_pos (okB_cu _ _ (by simp))]
  show (u ++ t).take (u.length : Int).toNat = u
  simp
theorem bytesS_app (u t : List Int) {n : Int} (hn : n = (u.length : Int)) : (cu (u ++ t)).bytesS n = cu t := by
  subst hn
  unfold Cu.bytesS
  rw [if_pos (okB_cu _ _ (by simp))]
  show (⟨(u ++ t).drop (u.length : Int).toNat, _, _⟩ : Cu) = _
  simp [cu]
theorem bytesS_cut {l : List Int} {n : Int} (h : (l.length : Int) < n ∨ n < 0) : ((cu l).bytesS n).e = 2 := by
  unfold Cu.bytesS
  have hk : ¬ (cu l).okB n = true := fun hk => by
    obtain ⟨_, h2, h3⟩ := (Cu.okB_iff _ _).1 hk
    have h3 : n ≤ (l.length : Int) := h3
    omega
  rw [if_neg hk]
  rfl
theorem fin_cu_cons (x : Int) (t : List Int) : (cu (x :: t)).fin.e = 3 := by
  show ((cu (x :: t)).need _ 3).e = 3
  unfold Cu.need cu
  simp
section
variable {α β : Type}
def Rd.ret (a : α) : (Cu → Cu × α) := fun c => (c, a)
def Rd.bind (r : (Cu → Cu × α)) (f : α → (Cu → Cu × β)) : (Cu → Cu × β) := fun c => f (r c).2 (r c).1
def Rd.byte : (Cu → Cu × Int) := fun c => (c.byteS, c.byteV)
def Rd.need (ok : Bool) (f : Int) : (Cu → Cu × Unit) := fun c => (c.need ok f, ())
def Rd.bytes (n : Int) : (Cu → Cu × (List Int)) := fun c => (c.bytesS n, c.bytesV n)
structure Cl (r : (Cu → Cu × α)) : Prop where
  dead : ∀ c : Cu, c.e ≠ 0 → (r c).1.e = c.e
  ok : ∀ xs : List Int, (r (cu xs)).1.e = 0 → ∃ u t, xs = u ++ t ∧ (∀ t', r (cu (u ++ t')) = (cu t', (r (cu xs)).2)) ∧ ∀ k, k < u.length → (r (cu (u.take k))).1.e = 2
theorem Cl.ret (a : α) : Cl (Rd.ret a) := ⟨fun _ _ => rfl, fun xs _ => ⟨[], xs, rfl, fun _ => rfl, fun k hk => absurd hk (Nat.not_lt_zero k)⟩⟩
theorem Cl.need (ok : Bool) (f : Int) : Cl (Rd.need ok f) := by
  refine ⟨fun c h => by show (c.need ok f).e = c.e; rw [need_dead h], fun xs h => ⟨[], xs, rfl, fun t => ?_, fun k hk => absurd hk (Nat.not_lt_zero k)⟩⟩
  have e := need_ok' (xs := xs) h
  show ((cu t).need ok f, ()) = _
  cases ok with
  | true => rw [need_true]
  | false =>
    have hf : f = 0 := by
      have h : ((cu xs).need false f).e = 0 := h
      unfold Cu.need cu at h
      simpa using h
    subst hf
    first | rfl | done
theorem Cl.bytes (n : Int) : Cl (Rd.bytes n) := by
  refine ⟨fun c h => bytesS_dead h n, fun xs h => ?_⟩
  obtain ⟨h1, h2, h3, h4, h5, h6⟩ := bytes_ok (c := cu xs) h
  have h4 : n ≤ (xs.length : Int) := h4
  have hl : n = ((xs.take n.toNat).length : Int) := by rw [List.length_take]; omega
  refine ⟨xs.take n.toNat, xs.drop n.toNat, (List.take_append_drop _ _).symm, fun t => ?_, fun k hk => ?_⟩
  · show ((cu (xs.take n.toNat ++ t)).bytesS n, (cu (xs.take n.toNat ++ t)).bytesV n) = (cu t, (cu xs).bytesV n)
    rw [bytesS_app _ _ hl, bytesV_app _ _ hl, h6]
    rfl
  · refine bytesS_cut (.inl ?_)
    rw [List.length_take]
    omega
end
def Dd {α : Type} (r : (Cu → Cu × α)) : Prop := ∀ c : Cu, c.e ≠ 0 → (r c).1.e = c.e
section
variable {α β : Type} {f : α → (Cu → Cu × β)}
theorem Dd.bind {r : (Cu → Cu × α)} (hr : Dd r) (hf : ∀ a, Dd (f a)) : Dd (Rd.bind r f) := fun c h => by
  have h1 := hr c h
  show (f (r c).2 (r c).1).1.e = c.e
  rw [hf _ _ (by rw [h1]; exact h), h1]
theorem Dd.ite {c : Prop} [Decidable c] {r s : (Cu → Cu × α)} (hr : Dd r) (hs : Dd s) : Dd (if c then r else s) := by
  split
  · exact hr
  · exact hs
theorem byte_inv {f : Int → (Cu → Cu × β)} {l : List Int} (hf : ∀ a, Dd (f a)) (h : (Rd.bind Rd.byte f (cu l)).1.e = 0) : ∃ x t, l = x :: t ∧ Rd.bind Rd.byte f (cu l) = f x (cu t) := by
  have h : (f (cu l).byteV (cu l).byteS).1.e = 0 := h
  have h1 : (cu l).byteS.e = 0 := by
    by_cases h1 : (cu l).byteS.e = 0
    · exact h1
    · rw [hf _ _ h1] at h; exact h
  obtain ⟨_, _, t, h2, h3⟩ := byte_ok h1
  refine ⟨_, t, h2, ?_⟩
  show f (cu l).byteV (cu l).byteS = _
  rw [h3]
theorem need_inv {f : Unit → (Cu → Cu × β)} {l : List Int} {ok : Bool} {e : Int} (he : e ≠ 0) (hf : ∀ a, Dd (f a)) (h : (Rd.bind (Rd.need ok e) f (cu l)).1.e = 0) : ok = true ∧ Rd.bind (Rd.need ok e) f (cu l) = f () (cu l) := by
  have h : (f () ((cu l).need ok e)).1.e = 0 := h
  have h1 : ((cu l).need ok e).e = 0 := by
    by_cases h1 : ((cu l).need ok e).e = 0
    · exact h1
    · rw [hf _ _ h1] at h; exact h
  obtain ⟨_, h2, h3⟩ := need_ok he h1
  refine ⟨h2, ?_⟩
  show f () ((cu l).need ok e) = _
  rw [h3]
theorem bytes_inv {f : List Int → (Cu → Cu × β)} {l : List Int} {n : Int} (hf : ∀ a, Dd (f a)) (h : (Rd.bind (Rd.bytes n) f (cu l)).1.e = 0) : 0 ≤ n ∧ n ≤ (l.length : Int) ∧ Rd.bind (Rd.bytes n) f (cu l) = f (l.take n.toNat) (cu (l.drop n.toNat)) := by
  have h : (f ((cu l).bytesV n) ((cu l).bytesS n)).1.e = 0 := h
  have h1 : ((cu l).bytesS n).e = 0 := by
    by_cases h1 : ((cu l).bytesS n).e = 0
    · exact h1
    · rw [hf _ _ h1] at h; exact h
  obtain ⟨_, _, h2, h3, h4, h5⟩ := bytes_ok h1
  refine ⟨h2, h3, ?_⟩
  show f ((cu l).bytesV n) ((cu l).bytesS n) = _
  rw [h4, h5]
  rfl
theorem need_run (f : Unit → (Cu → Cu × β)) {ok : Bool} (h : ok = true) (e : Int) (c : Cu) : Rd.bind (Rd.need ok e) f c = f () c := by
  show f () (c.need ok e) = _
  rw [h, need_true]
theorem Dd.need (ok : Bool) (e : Int) : Dd (Rd.need ok e) := (Cl.need ok e).dead
theorem Dd.bytes (n : Int) : Dd (Rd.bytes n) := (Cl.bytes n).dead
theorem Dd.ret (a : α) : Dd (Rd.ret a) := (Cl.ret a).dead
end
def Rd.words (n : Int) : (Cu → Cu × (List Int)) := fun c => (c.wordsS n, c.wordsV n)
theorem wordsS_dead {c : Cu} (h : c.e ≠ 0) (n : Int) : (c.wordsS n).e = c.e := by
  unfold Cu.wordsS
  split
  · rfl
  · simp only [Cu.fail, fstE]
    rw [if_neg h]
theorem words_ok {c : Cu} {n : Int} (h : (c.wordsS n).e = 0) : c.e = 0 ∧ c.s = false ∧ 0 ≤ n ∧ 2 * n ≤ (c.xs.length : Int) ∧ c.wordsS n = cu (c.xs.drop (2 * n.toNat)) ∧ c.wordsV n = Take.words (c.xs.take (2 * n.toNat)) := by
  have he : c.e = 0 := by
    by_cases he : c.e = 0
    · exact he
    · rw [wordsS_dead he] at h; exact h
  by_cases hk : c.okW n = true
  · obtain ⟨h1, h2, h3⟩ := (Cu.okW_iff c n).1 hk
    refine ⟨he, h1, h2, h3, ?_, ?_⟩
    · unfold Cu.wordsS cu; rw [if_pos hk, h1, he]
    · unfold Cu.wordsV; rw [if_pos hk]
  · exfalso
    unfold Cu.wordsS at h
    rw [if_neg hk] at h
    simp only [Cu.fail, fstE] at h
    rw [if_pos he] at h
    exact absurd h (by decide)
theorem okW_cu (l : List Int) (n : Nat) (h : 2 * n ≤ l.length) : (cu l).okW (n : Int) = true := by
  rw [Cu.okW_iff]
  exact ⟨rfl, by omega, by show 2 * (n : Int) ≤ (l.length : Int); omega⟩
theorem wordsV_app (u t : List Int) {n : Int} (hn : 2 * n = (u.length : Int)) : (cu (u ++ t)).wordsV n = Take.words u := by
  obtain ⟨m, rfl⟩ := Int.eq_ofNat_of_zero_le (show 0 ≤ n by omega)
  unfold Cu.wordsV
  rw [if_pos (okW_cu _ _ (by rw [List.length_append]; omega))]
  show Take.words ((u ++ t).take (2 * (m : Int).toNat)) = _
  rw [show 2 * (m : Int).toNat = u.length by omega]
  simp
theorem wordsS_app (u t : List Int) {n : Int} (hn : 2 * n = (u.length : Int)) : (cu (u ++ t)).wordsS n = cu t := by
  obtain ⟨m, rfl⟩ := Int.eq_ofNat_of_zero_le (show 0 ≤ n by omega)
  unfold Cu.wordsS
  rw [if_pos (okW_cu _ _ (by rw [List.length_append]; omega))]
  show (⟨(u ++ t).drop (2 * (m : Int).toNat), _, _⟩ : Cu) = _
  rw [show 2 * (m : Int).toNat = u.length by omega]
  simp [cu]
theorem wordsS_cut {l : List Int} {n : Int} (h : (l.length : Int) < 2 * n ∨ n < 0) : ((cu l).wordsS n).e = 2 := by
  unfold Cu.wordsS
  have hk : ¬ (cu l).okW n = true := fun hk => by
    obtain ⟨_, h2, h3⟩ := (Cu.okW_iff _ _).1 hk
    have h3 : 2 * n ≤ (l.length : Int) := h3
    omega
  rw [if_neg hk]
  rfl
theorem Cl.words (n : Int) : Cl (Rd.words n) := by
  refine ⟨fun c h => wordsS_dead h n, fun xs h => ?_⟩
  obtain ⟨h1, h2, h3, h4, h5, h6⟩ := words_ok (c := cu xs) h
  have h4 : 2 * n ≤ (xs.length : Int) := h4
  have hl : 2 * n = ((xs.take (2 * n.toNat)).length : Int) := by rw [List.length_take]; omega
  refine ⟨xs.take (2 * n.toNat), xs.drop (2 * n.toNat), (List.take_append_drop _ _).symm, fun t => ?_, fun k hk => ?_⟩
  · show ((cu (xs.take (2 * n.toNat) ++ t)).wordsS n, (cu (xs.take (2 * n.toNat) ++ t)).wordsV n) = (cu t, (cu xs).wordsV n)
    rw [wordsS_app _ _ hl, wordsV_app _ _ hl, h6]
    rfl
  · refine wordsS_cut (.inl ?_)
    rw [List.length_take]
    omega
theorem words_inv {β : Type} {f : List Int → (Cu → Cu × β)} {l : List Int} {n : Int} (hf : ∀ a, Dd (f a)) (h : (Rd.bind (Rd.words n) f (cu l)).1.e = 0) : 0 ≤ n ∧ 2 * n ≤ (l.length : Int) ∧ Rd.bind (Rd.words n) f (cu l) = f (Take.words (l.take (2 * n.toNat))) (cu (l.drop (2 * n.toNat))) := by
  have h : (f ((cu l).wordsV n) ((cu l).wordsS n)).1.e = 0 := h
  have h1 : ((cu l).wordsS n).e = 0 := by
    by_cases h1 : ((cu l).wordsS n).e = 0
    · exact h1
    · rw [hf _ _ h1] at h; exact h
  obtain ⟨_, _, h2, h3, h4, h5⟩ := words_ok h1
  refine ⟨h2, h3, ?_⟩
  show f ((cu l).wordsV n) ((cu l).wordsS n) = _
  rw [h4, h5]
  rfl
theorem words_run {β : Type} (f : List Int → (Cu → Cu × β)) (u t : List Int) {n : Int} (hn : 2 * n = (u.length : Int)) : Rd.bind (Rd.words n) f (cu (u ++ t)) = f (Take.words u) (cu t) := by
  show f ((cu (u ++ t)).wordsV n) ((cu (u ++ t)).wordsS n) = _
  rw [wordsV_app _ _ hn, wordsS_app _ _ hn]
theorem Dd.words (n : Int) : Dd (Rd.words n) := (Cl.words n).dead
def Rd.word : (Cu → Cu × Int) := fun c => (c.wordS, c.wordV)
theorem two_words (a b : Int) : (Take.words [a, b]).headD 0 = a * 256 + b := by
  simp [Take.words, Take.pre, Take.wordAt, List.range_succ]
theorem wordV_cons (a b : Int) (t : List Int) : (cu (a :: b :: t)).wordV = a * 256 + b := by
  show ((cu ([a, b] ++ t)).wordsV 1).headD 0 = _
  rw [wordsV_app [a, b] t (n := 1) (by simp)]
  exact two_words a b
theorem wordS_cons (a b : Int) (t : List Int) : (cu (a :: b :: t)).wordS = cu t := wordsS_app [a, b] t (n := 1) (by simp)
theorem word_ok {c : Cu} (h : c.wordS.e = 0) : c.e = 0 ∧ c.s = false ∧ ∃ a b t, c.xs = a :: b :: t ∧ c.wordS = cu t ∧ c.wordV = a * 256 + b := by
  obtain ⟨h1, h2, h3, h4, h5, h6⟩ := words_ok (n := 1) h
  cases hx : c.xs with
  | nil => rw [hx] at h4; simp at h4
  | cons a t =>
  cases ht : t with
  | nil => rw [hx, ht] at h4; simp at h4
  | cons b r =>
    refine ⟨h1, h2, a, b, r, rfl, ?_, ?_⟩
    · show c.wordsS 1 = _
      rw [h5, hx, ht]; rfl
    · show (c.wordsV 1).headD 0 = _
      rw [h6, hx, ht]; exact two_words a b
theorem Cl.word : Cl Rd.word := by
  refine ⟨fun c h => wordsS_dead h 1, fun xs h => ?_⟩
  obtain ⟨h1, h2, a, b, t, h3, h4, h5⟩ := word_ok (c := cu xs) h
  have h3 : xs = a :: b :: t := h3
  refine ⟨[a, b], t, h3, fun t' => ?_, fun k hk => ?_⟩
  · show ((cu (a :: b :: t')).wordS, (cu (a :: b :: t')).wordV) = (cu t', (cu xs).wordV)
    rw [wordS_cons, wordV_cons, h5]
  · refine wordsS_cut (n := 1) (.inl ?_)
    rw [List.length_take]
    simp only [List.length_cons, List.length_nil] at hk ⊢
    omega
theorem Dd.word : Dd Rd.word := Cl.word.dead
theorem word_inv {β : Type} {f : Int → (Cu → Cu × β)} {l : List Int} (hf : ∀ a, Dd (f a)) (h : (Rd.bind Rd.word f (cu l)).1.e = 0) : ∃ a b t, l = a :: b :: t ∧ Rd.bind Rd.word f (cu l) = f (a * 256 + b) (cu t) := by
  have h : (f (cu l).wordV (cu l).wordS).1.e = 0 := h
  have h1 : (cu l).wordS.e = 0 := by
    by_cases h1 : (cu l).wordS.e = 0
    · exact h1
    · rw [hf _ _ h1] at h; exact h
  obtain ⟨_, _, a, b, t, h2, h3, h4⟩ := word_ok h1
  refine ⟨a, b, t, h2, ?_⟩
  show f (cu l).wordV (cu l).wordS = _
  rw [h3, h4]
theorem word_run {β : Type} (f : Int → (Cu → Cu × β)) {v : Int} (hv : 0 ≤ v ∧ v < 65536) (t : List Int) : Rd.bind Rd.word f (cu ((v / 256) % 256 :: v % 256 :: t)) = f v (cu t) := by
  show f (cu ((v / 256) % 256 :: v % 256 :: t)).wordV (cu ((v / 256) % 256 :: v % 256 :: t)).wordS = _
  rw [wordV_cons, wordS_cons, show v / 256 % 256 * 256 + v % 256 = v by omega]
end Go.Proofs.Ytalaochocmcbcaa.Cu
end
section
namespace Go.Proofs.Ytalaochocmcbcaa.Code
open Go.RowKit Go.Maps Go.Proofs.YtalaochocmcbcaaW.PrintWords Go.Proofs.YtalaochocmcbcaaW.PrintLast Go.Proofs.YtalaochocmcbcaaW.PrintMore
def setD (q : IntKind) (l : List Int) : DataW Unit := l.foldl (fun D x => D.put (.int q x) (.lit (.bool true))) (.map [])
theorem setD_snoc (q : IntKind) (l : List Int) (x : Int) : setD q (l ++ [x]) = (setD q l).put (.int q x) (.lit (.bool true)) := by unfold setD; rw [List.foldl_append]; rfl
theorem fold_at (q : IntKind) (c : Int) (l : List Int) : ∀ (D : DataW Unit) (b : Bool), IsMap D → D.atKey (.int q c) (.lit (.bool false)) = .lit (.bool b) → (l.foldl (fun D x => D.put (.int q x) (.lit (.bool true))) D).atKey (.int q c) (.lit (.bool false)) = .lit (.bool (b || l.contains c)) := by
  induction l with
  | nil => intro D b _ h; simpa using h
  | cons x l ih =>
    intro D b hD h
    rw [List.foldl_cons]
    by_cases e : x = c
    · subst e
      rw [ih _ true (hD.put _ _) (atKey_put_same hD (by trivial) _ _)]
      simp
    · rw [ih _ b (hD.put _ _) ((atKey_put_other (fun h => e (by injection h with _ h; exact h.symm)) _ _).trans h)]
      have : (c == x) = false := by rw [beq_eq_false_iff_ne]; exact fun h => e h.symm
      have h2 : ¬ c = x := fun h => e h.symm
      simp [h2]
theorem setD_at (q : IntKind) (l : List Int) (c : Int) : (setD q l).atKey (.int q c) (.lit (.bool false)) = .lit (.bool (l.contains c)) := by
  unfold setD
  rw [fold_at q c l _ false ⟨[], rfl⟩ rfl, Bool.false_or]
theorem plainElem_bool_inv {P : Program} {e : TypeId} (he : P.underlying e = some .bool) {v : Value} {z : DataW Unit × List MemPlace} (h : plainElem P e v = some z) : ∃ b, v = .bool b ∧ z = (.lit (.bool b), []) := by
  unfold plainElem at h
  rw [he] at h
  cases v <;> simp_all
theorem lawu16 : Keyed Try.prog 24 := int_keyed Try.underlying24
theorem zeroBu16 (w : World) : (zeroValue 4).run Try.prog w = .ok (.bool false) w := by kernel_rfl
theorem look_u16 {w : World} {b n : Nat} {l : List Int} (h : w.ownsMap Try.prog 24 (plainElem Try.prog 4) b n (setD .u16 l)) (c : Int) (hc : (Lit.int .u16 c).wf = true) :
    (Instr.lookup 84 (.map (some b)) (.int .u16 c) false).run Try.prog w = .ok (.bool (l.contains c)) w := by
  obtain ⟨vv, ps, hrun, hRv⟩ := h.lookup lawu16 Try.underlying84 (zeroBu16 _) (plainElem_bool Try.underlying4 false) (keyOf_int_mk Try.underlying24 hc)
  rw [setD_at] at hRv
  obtain ⟨bb, rfl, hbb⟩ := plainElem_bool_inv Try.underlying4 hRv
  simp only [Prod.mk.injEq, DataW.lit.injEq, Lit.bool.injEq] at hbb
  rw [hbb.1]
  exact hrun
theorem set_u16 (A : Option Addr) (c : Nat) (l : List Int) (w : World) (hr : Kd.C (Kd.int .u16) w A l.length l) (hs : l.length ≤ 1000) (hwf : ∀ x ∈ l, (Lit.int .u16 x).wf = true) :
    Calls Try.prog 58 #[.slice A l.length c] w fun e w' => ∃ b, e = .returned (.map (some b)) ∧ w'.ownsMap Try.prog 24 (plainElem Try.prog 4) b l.length (setD .u16 l) ∧ Below w.heap.size w w' := by
  have HR := Aside0.mk hr
  clear hr
  have hmm := @run_makeMap Try.prog
  go_enter Try.func58, Try.ntmps58
  go_wp2
  go_loopw [9] (fun i wr => ∃ k : Nat, k ≤ l.length ∧ i = .int .i64 k ∧ wr.ownsMap Try.prog 24 (plainElem Try.prog 4) w.heap.size k (setD .u16 (l.take k)) ∧ Below w.heap.size w wr)
    (fun i _ => l.length - (intOf i).toNat)
  case atStart => exact ⟨0, Nat.zero_le _, rfl, World.ownsMap_made _ _ _ _, (Below.refl _ _).alloc (Nat.le_refl _) _⟩
  case round =>
    obtain ⟨k, hk, rfl, hown, hnx⟩ := hrel
    by_cases hlt : k < l.length
    · obtain ⟨ad, rfl, hx⟩ := Kd.at_int HR.out (k : Int) (by omega) (by omega)
      have hcx := (hnx.cell (World.block_lt_of_cell? w _ hx)).trans hx
      rw [Int.toNat_natCast] at hcx
      have hw2 : (Lit.int .u16 (rd l (k : Int))).wf = true := by
        unfold rd
        rw [Int.toNat_natCast, List.getD_eq_getElem?_getD, List.getElem?_eq_getElem hlt]
        exact hwf _ (List.getElem_mem hlt)
      have hkey : keyOf Try.prog 24 (.int .u16 (rd l (k : Int))) = some (.int .u16 (rd l (k : Int))) := keyOf_int_mk Try.underlying24 hw2
      have hsn : (setD .u16 (l.take k)).put (.int .u16 (rd l (k : Int))) (.lit (.bool true)) = setD .u16 (l.take (k + 1)) := by
        rw [← setD_snoc]
        congr 1
        unfold rd
        rw [Int.toNat_natCast, List.getD_eq_getElem?_getD, List.getElem?_eq_getElem hlt, List.take_succ_eq_append_getElem hlt]; rfl
      have HSN := Aside0.mk hsn
      clear hsn hx hw2
      go_wp2_with (first
        | (at_mapUpdate; refine wpList_mapUpdate_own _ rfl _ _ _ 84 rfl 24 4 lawu16 Try.underlying84 _ w.heap.size k _ rfl hown (by unfold maxLen; omega) _ _ _ rfl rfl hkey _ [] (plainElem_bool Try.underlying4 _) ?_; intro w1 hown1 hgrow1)
        | go_in)
      go_roundw
      case rel => exact ⟨k + 1, by omega, by go_num, HSN.out ▸ hown1, hnx.grown hgrow1 hnx.size (fun j hj => by cases hj; exact Nat.le_refl _)⟩
      case measure => simp [intOf]; omega
    · go_wp2
      go_ret
      have : k = l.length := by omega
      subst this
      rw [List.take_length] at hown
      exact ⟨_, rfl, hown, hnx⟩
def bitsubL : List Int := [0, 1, 2, 3, 4, 10, 11, 12, 13, 14, 15, 16, 17, 18, 20]
theorem bitsub_any (c : Int) (w : World) (hc : (Lit.int .u16 c).wf = true) :
    Calls Try.prog 41 #[.int .u16 c] w fun e w' => e = .returned (.bool (bitsubL.contains c)) ∧ Below w.heap.size w w' := by
  have HW := Aside0.mk hc
  clear hc
  go_enter Try.func41, Try.ntmps41
  go_wp2_with (first
    | ((with_reducible refine gate_dst (N := 3) rfl ?_); (try (refine gate_guard (by rfl) ?_; dsimp only)); refine Kd.R_lit (Kd.int .u16) (w0 := w) w.heap.size 24 ?hg (N := 3) ?hd (xs := bitsubL) (inner := [.int .u16 0, .int .u16 1, .int .u16 2, .int .u16 3, .int .u16 4, .int .u16 10, .int .u16 11, .int .u16 12, .int .u16 13, .int .u16 14, .int .u16 15, .int .u16 16, .int .u16 17, .int .u16 18, .int .u16 20]) (ok := fun _ => True) (okp := fun _ => True) ?hr ?hp (fun _ hk => hk) trivial (Below.refl _ _) (Nat.le_refl _) (by decide) ?_; (case hd => rfl); (case hg => rfl); (case hr => first | (go_simp; done) | (go_simp; rfl)); (case hp => exact (Reps.one (show Kd.M (Kd.int .u16) _ _ _ 0 [.int .u16 0] from rfl) (Reps.one (show Kd.M (Kd.int .u16) _ _ _ 1 [.int .u16 1] from rfl) (Reps.one (show Kd.M (Kd.int .u16) _ _ _ 2 [.int .u16 2] from rfl) (Reps.one (show Kd.M (Kd.int .u16) _ _ _ 3 [.int .u16 3] from rfl) (Reps.one (show Kd.M (Kd.int .u16) _ _ _ 4 [.int .u16 4] from rfl) (Reps.one (show Kd.M (Kd.int .u16) _ _ _ 10 [.int .u16 10] from rfl) (Reps.one (show Kd.M (Kd.int .u16) _ _ _ 11 [.int .u16 11] from rfl) (Reps.one (show Kd.M (Kd.int .u16) _ _ _ 12 [.int .u16 12] from rfl) (Reps.one (show Kd.M (Kd.int .u16) _ _ _ 13 [.int .u16 13] from rfl) (Reps.one (show Kd.M (Kd.int .u16) _ _ _ 14 [.int .u16 14] from rfl) (Reps.one (show Kd.M (Kd.int .u16) _ _ _ 15 [.int .u16 15] from rfl) (Reps.one (show Kd.M (Kd.int .u16) _ _ _ 16 [.int .u16 16] from rfl) (Reps.one (show Kd.M (Kd.int .u16) _ _ _ 17 [.int .u16 17] from rfl) (Reps.one (show Kd.M (Kd.int .u16) _ _ _ 18 [.int .u16 18] from rfl) (Reps.one (show Kd.M (Kd.int .u16) _ _ _ 20 [.int .u16 20] from rfl) (Reps.none _ _))))))))))))))))); intro v1 w1 ho hb hg_ hnew_; clear hg_ hnew_; have HO := Aside0.mk ho; have HB := Aside0.mk hb; clear ho hb; obtain ⟨Ao, co, eo⟩ := Kd.R_slice HO.out; subst eo)
    | (go_at_call 58; (with_reducible refine (set_u16 Ao co bitsubL _ (Kd.R_reads' HO.out).2.2 (by decide) (by decide)).mono ?_); rintro e w2 ⟨b, rfl, hown, hb2⟩; have HB2 := Aside0.mk (below_step HB.out hb2); have hrun := look_u16 hown c HW.out; clear hb2 hown)
    | go_in)
  go_ret
  exact ⟨by first | rfl | (simp; done), HB2.out⟩
end Go.Proofs.Ytalaochocmcbcaa.Code
end
section
namespace Go.Proofs.Ytalaochocmcbcaa.Diag
open Go.RowKit Go.Maps Go.Proofs.Ytalaochocmcbcaa.P Go.Proofs.Ytalaochocmcbcaa.E Go.Proofs.Ytalaochocmcbcaa.Cur Go.Proofs.Ytalaochocmcbcaa.Cu Go.Proofs.Ytalaochocmcbcaa.Same Go.Proofs.Ytalaochocmcbcaa.Code Go.Proofs.YtalaochocmcbcaaW.PrintWords Go.Proofs.YtalaochocmcbcaaW.PrintLast Go.Proofs.YtalaochocmcbcaaW.PrintMore
def leftR : (Cu → Cu × Int) := fun c => (c, (c.xs.length : Int))
def mayB (dir s v : Int) : Bool := if (s = 2 ∨ (11 ≤ s ∧ s ≤ 18)) ∧ dir = 1 then true else if s = 1 then (v == 0 || v == 65280) else if s = 3 then (v % 256 == 0) else v == 0
def subB (s : Int) : Bool := bitsubL.contains s
theorem sub_c {s : Int} (hs : (Lit.int .u16 s).wf = true) (w : World) : Calls Try.prog 41 #[.int .u16 s] w fun e w' => e = .returned (.bool (subB s)) ∧ Below w.heap.size w w' := bitsub_any s w hs
def echoR (m : Msg) : (Cu → Cu × Msg) := Rd.bind leftR fun n => Rd.bind (Rd.need (n % 2 == 0 && (decide (2 ≤ n) && decide (n ≤ 250))) 5) fun _ => Rd.bind (Rd.words (n / 2)) fun l => Rd.ret { m with words := l }
def lineR (dir : Int) (m : Msg) : (Cu → Cu × Msg) := Rd.bind Rd.word fun s => Rd.bind (Rd.need (subB s && (dir == 0 || s != 4)) 8) fun _ => if s = 0 then echoR { m with sub := s } else
  Rd.bind (Rd.words 1) fun l => Rd.bind (Rd.need (l.length == 1 && mayB dir s (l.headD 0)) 6) fun _ => Rd.ret { m with sub := s, words := l }
def busyR : (Cu → Cu × Int) := Rd.bind Rd.word fun s => Rd.bind (Rd.need (s == 0 || s == 65535) 6) fun _ => Rd.ret s
def eventsR (m : Msg) : (Cu → Cu × Msg) := Rd.bind busyR fun s => Rd.bind Rd.word fun e => Rd.ret { m with status := s, events := e }
def logsR (m : Msg) : (Cu → Cu × Msg) := Rd.bind Rd.byte fun n => Rd.bind (Rd.need (decide (6 ≤ n) && decide (n ≤ 70)) 5) fun _ => Rd.bind busyR fun s => Rd.bind Rd.word fun e => Rd.bind Rd.word fun g => Rd.bind (Rd.bytes (n - 6)) fun l => Rd.ret { m with status := s, events := e, messages := g, data := l }
def nameR (m : Msg) : (Cu → Cu × Msg) := Rd.bind Rd.byte fun n => Rd.bind (Rd.need (decide (1 ≤ n) && decide (n ≤ 251)) 5) fun _ => Rd.bind (Rd.bytes n) fun l => Rd.ret { m with data := l }
def ansR (m : Msg) : (Cu → Cu × Msg) := if m.code = 7 then Rd.bind Rd.byte fun v => Rd.ret { m with value := v } else if m.code = 11 then eventsR m else if m.code = 12 then logsR m else if m.code = 17 then nameR m else Rd.ret m
def bodyR (dir : Int) (m : Msg) : (Cu → Cu × Msg) := if m.code = 8 then lineR dir m else if dir = 1 then ansR m else Rd.ret m
def isCode (code : Int) : Prop := code = 7 ∨ code = 8 ∨ code = 11 ∨ code = 12 ∨ code = 17
instance (code : Int) : Decidable (isCode code) := by unfold isCode; infer_instance
def parse (dir code : Int) (bs : List Int) : Msg × Int :=
  if dir ≠ 0 ∧ dir ≠ 1 then (zeroM, 1) else if ¬ isCode code then (zeroM, 4) else
  if (bodyR dir { zeroM with code := code } (cu bs)).1.fin.e ≠ 0 then (zeroM, (bodyR dir { zeroM with code := code } (cu bs)).1.fin.e) else ((bodyR dir { zeroM with code := code } (cu bs)).2, 0)
open Classical in
noncomputable def RV (v : Value) : Option (DataW Unit × List MemPlace) := if v = (.func (.func 61) #[] #[]) then some (.lit (.int .i64 2), []) else if v = (.func (.func 62) #[] #[]) then some (.lit (.int .i64 3), []) else none
theorem RV_2 : RV (.func (.func 61) #[] #[]) = some (.lit (.int .i64 2), []) := if_pos rfl
theorem RV_3 : RV (.func (.func 62) #[] #[]) = some (.lit (.int .i64 3), []) := by
  unfold RV
  rw [if_neg (by simp), if_pos rfl]
theorem RV_inv {v : Value} {y : DataW Unit × List MemPlace} (h : RV v = some y) : (y.1 = .lit (.int .i64 2) → v = (.func (.func 61) #[] #[])) ∧ (y.1 = .lit (.int .i64 3) → v = (.func (.func 62) #[] #[])) := by
  unfold RV at h
  split at h
  · rename_i e; cases h; exact ⟨fun _ => e, fun e => by simp at e⟩
  split at h
  · rename_i e; cases h; exact ⟨fun e => by simp at e, fun _ => e⟩
  · cases h
def dl (n : Int) : DataW Unit := .lit (.int .i64 n)
def D0 : DataW Unit := .map []
def D2 : DataW Unit := (D0.put (.int .u16 1) (dl 2)).put (.int .u16 3) (dl 3)
theorem D2_at (c : Int) (zd : DataW Unit) : D2.atKey (.int .u16 c) zd = if c = 3 then dl 3 else if c = 1 then dl 2 else zd := by
  have h0 : IsMap D0 := ⟨[], rfl⟩
  have ne : ∀ a b : Int, a ≠ b → Lit.int .u16 a ≠ Lit.int .u16 b := fun a b h e => h (by injection e)
  unfold D2
  by_cases h : c = 3
  · subst h; rw [if_pos rfl]; exact atKey_put_same (h0.put _ _) (by trivial) _ _
  rw [if_neg h, atKey_put_other (ne _ _ h)]
  by_cases h : c = 1
  · subst h; rw [if_pos rfl]; exact atKey_put_same h0 (by trivial) _ _
  rw [if_neg h, atKey_put_other (ne _ _ h)]
  rfl
theorem lawk : Keyed Try.prog 24 := int_keyed Try.underlying24
theorem zeroF (w : World) : (zeroValue 45).run Try.prog w = .ok .nilFunc w := by kernel_rfl
theorem look_m {w : World} {b n : Nat} (h : w.ownsMap Try.prog 24 RV b n D2) (c : Int) (hc : (Lit.int .u16 c).wf = true) :
    (Instr.lookup 87 (.map (some b)) (.int .u16 c) true).run Try.prog w = .ok (if c = 1 then .tuple #[(.func (.func 61) #[] #[]), .bool true] else if c = 3 then .tuple #[(.func (.func 62) #[] #[]), .bool true] else .tuple #[.nilFunc, .bool false]) w := by
  obtain ⟨es, clock, hb, F, _, hD⟩ := h
  rcases fit_look true lawk Try.underlying87 (zeroF _) hb F (keyOf_int_mk Try.underlying24 hc) with ⟨hrun, _, hat⟩ | ⟨e0, y, _, _, hrun, hRv, hat, _⟩
  · rw [if_pos rfl] at hrun
    rw [hrun]
    have ha := hat (dl 77)
    rw [← hD, D2_at] at ha
    have n3 : ¬ c = 3 := fun e => by rw [if_pos e] at ha; simp [dl] at ha
    rw [if_neg n3] at ha
    have n1 : ¬ c = 1 := fun e => by rw [if_pos e] at ha; simp [dl] at ha
    rw [if_neg n1, if_neg n3]
  · rw [if_pos rfl] at hrun
    rw [hrun]
    have R := RV_inv hRv
    have ha := hat (dl 77)
    have hb := hat (dl 78)
    rw [← hD, D2_at] at ha hb
    by_cases h3 : c = 3
    · rw [if_pos h3] at ha
      rw [if_neg (show ¬ c = 1 by omega), if_pos h3, R.2 ha.symm]
    rw [if_neg h3] at ha hb
    by_cases h1 : c = 1
    · rw [if_pos h1] at ha
      rw [if_pos h1, R.1 ha.symm]
    rw [if_neg h1] at ha hb
    exact absurd (ha.trans hb.symm) (by simp [dl])
theorem ev_insert {H : Type} {P : Program} (w : World) {ops : Array Oper} {rest : List Oper} {o : Oper} {a : Act} {Q : Exit → Act → World → Prop}
    (hg : o.guard = none) (m x v : Operand) (t : TypeId) (hop : o.op = Op.insert t m x v)
    (k e : TypeId) (K : Keyed P k) (ht : P.underlying t = some (.map k e)) (R : Value → Option (DataW H × List MemPlace)) (b n : Nat) (D : DataW H)
    (hm : a.eval m = .map (some b)) (hown : w.ownsMap P k R b n D) (hn : n < maxLen) (key val : Value) (kl : Lit) (hx : a.eval x = key) (hv : a.eval v = val) (hkey : keyOf P k key = some kl)
    (d : DataW H) (ps : List MemPlace) (hval : R val = some (d, ps))
    (hK : ∀ w', w'.ownsMap P k R b (n + 1) (D.put kl d) → w.grownBy w' (some b) → wpList P ops Q rest (a.put o.dst undef) w') :
    wpList P ops Q (o :: rest) a w := by
  refine wpList_plain hg fun K' hK' => ?_
  obtain ⟨w', hrun, r1, r2⟩ := hown.update K ht hn hkey hval
  unfold Oper.wp
  simp [execOp, hop, hm, hx, hv, hrun, Result.andThen]
  exact hK' _ _ (hK w' r1 r2)
theorem and255 {v : Int} (hv : 0 ≤ v ∧ v < 65536) : bits .and .u16 v 255 = v % 256 := by
  have h := bits_mask .u16 16 (by decide) (fun n h0 h1 => by rw [IntKind.wrap_u16]; omega) 8 (by decide) v hv.1 (by have := hv.2; omega)
  exact h
theorem may_0_1  {v : Int} (hv : 0 ≤ v ∧ v < 65536) (w : World) :
    Calls Try.prog 43 #[.int .i64 0, .int .u16 1, .int .u16 v] w fun en w' => en = .returned (.bool (v == 0 || v == 65280)) ∧ Below w.heap.size w w' := by
  have HV := Aside0.mk hv
  clear hv
  have hmm := @run_makeMap Try.prog
  have hmf : ∀ (fn : Fn) (first cap : Array Value) (w : World), (Instr.makeFunc fn first cap).run Try.prog w = .ok (.func fn first cap) w := fun _ _ _ _ => rfl
  go_enter Try.func43, Try.ntmps43
  go_upto_region 2 with (fail)
  clear hmf
  have O : Aside0 (((w.alloc (.cells #[.int .u16 v] 24 (0, 0))).alloc (.map #[] 0)).ownsMap Try.prog 24 RV (w.heap.size + 1) 0 D0) := ⟨by have h := World.ownsMap_made (P := Try.prog) (k := 24) (R := RV) (w.alloc (.cells #[.int .u16 v] 24 (0, 0))); rw [World.size_alloc] at h; exact h⟩
  have HB := Aside0.mk (((Below.refl w.heap.size w).alloc (Nat.le_refl _) (.cells #[.int .u16 v] 24 (0, 0))).alloc (by rw [World.size_alloc]; omega) (.map #[] 0))
  have KB := Aside0.mk (show ((w.alloc (.cells #[.int .u16 v] 24 (0, 0))).alloc (.map #[] 0)).heap[w.heap.size]? = some (.cells #[.int .u16 v] 24 (0, 0)) from blk_below (blk_new w (.cells #[.int .u16 v] 24 (0, 0))) (below_alloc (Below.refl _ _) (.map #[] 0)))
  go_upto_region 3 with (first | ((with_reducible refine gate_op (u := .insert 87 (.tmp 13) (.const (.int .u16 1)) (.func 61)) rfl ?_); refine ev_insert _ rfl _ _ _ 87 rfl 24 45 lawk Try.underlying87 RV (w.heap.size + 1) 0 _ rfl O.out (by unfold maxLen; omega) _ (.func (.func 61) #[] #[]) _ rfl rfl (keyOf_int_mk Try.underlying24 (by decide)) _ [] RV_2 ?_; intro x0 o_ g_; have kb_ := Aside0.mk (blk_grown KB.out g_ (fun e => by injection e with e; omega)); have n0_ := Aside0.mk o_; have n1_ := Aside0.mk (HB.out.grown g_ HB.out.size (fun j hj => by cases hj; omega)); clear O HB o_ g_ KB; have O := n0_; have HB := n1_; have KB := kb_; clear n0_ n1_ kb_) | ((with_reducible refine gate_op (u := .insert 87 (.tmp 13) (.const (.int .u16 3)) (.func 62)) rfl ?_); refine ev_insert _ rfl _ _ _ 87 rfl 24 45 lawk Try.underlying87 RV (w.heap.size + 1) 1 _ rfl O.out (by unfold maxLen; omega) _ (.func (.func 62) #[] #[]) _ rfl rfl (keyOf_int_mk Try.underlying24 (by decide)) _ [] RV_3 ?_; intro x1 o_ g_; have kb_ := Aside0.mk (blk_grown KB.out g_ (fun e => by injection e with e; omega)); have n0_ := Aside0.mk o_; have n1_ := Aside0.mk (HB.out.grown g_ HB.out.size (fun j hj => by cases hj; omega)); clear O HB o_ g_ KB; have O := n0_; have HB := n1_; have KB := kb_; clear n0_ n1_ kb_))
  have lk : (Instr.lookup 87 (.map (some (w.heap.size + 1))) (.int .u16 1) true).run Try.prog x1 = .ok (.tuple #[(.func (.func 61) #[] #[]), .bool true]) x1 := by
    have h := look_m O.out 1 (by decide)
    exact h
  clear O
  have n0_ := Aside0.mk lk
  clear lk
  have lk := n0_.out
  clear n0_
  go_upto_region 9 with (fail)
  clear lk hmm
  have kv : x1.cell? ⟨w.heap.size, 0, none⟩ = some (.int .u16 v) := (blk_cell KB.out 0).trans rfl
  cases hz_ : (v == 0) with
  | true =>
    go_wp2_with go_in
    go_ret
    exact ⟨by first | rfl | (rw [hz_]; rfl) | (simp [hz_]; done), HB.out⟩
  | false =>
    go_wp2_with go_in
    go_ret
    exact ⟨by rw [hz_]; first | rfl | (simp [hz_]; done), HB.out⟩
theorem may_0_2  {v : Int} (hv : 0 ≤ v ∧ v < 65536) (w : World) :
    Calls Try.prog 43 #[.int .i64 0, .int .u16 2, .int .u16 v] w fun en w' => en = .returned (.bool (v == 0)) ∧ Below w.heap.size w w' := by
  have HV := Aside0.mk hv
  clear hv
  have hmm := @run_makeMap Try.prog
  have hmf : ∀ (fn : Fn) (first cap : Array Value) (w : World), (Instr.makeFunc fn first cap).run Try.prog w = .ok (.func fn first cap) w := fun _ _ _ _ => rfl
  go_enter Try.func43, Try.ntmps43
  go_upto_region 2 with (fail)
  clear hmf
  have O : Aside0 (((w.alloc (.cells #[.int .u16 v] 24 (0, 0))).alloc (.map #[] 0)).ownsMap Try.prog 24 RV (w.heap.size + 1) 0 D0) := ⟨by have h := World.ownsMap_made (P := Try.prog) (k := 24) (R := RV) (w.alloc (.cells #[.int .u16 v] 24 (0, 0))); rw [World.size_alloc] at h; exact h⟩
  have HB := Aside0.mk (((Below.refl w.heap.size w).alloc (Nat.le_refl _) (.cells #[.int .u16 v] 24 (0, 0))).alloc (by rw [World.size_alloc]; omega) (.map #[] 0))
  have KB := Aside0.mk (show ((w.alloc (.cells #[.int .u16 v] 24 (0, 0))).alloc (.map #[] 0)).heap[w.heap.size]? = some (.cells #[.int .u16 v] 24 (0, 0)) from blk_below (blk_new w (.cells #[.int .u16 v] 24 (0, 0))) (below_alloc (Below.refl _ _) (.map #[] 0)))
  go_upto_region 3 with (first | ((with_reducible refine gate_op (u := .insert 87 (.tmp 13) (.const (.int .u16 1)) (.func 61)) rfl ?_); refine ev_insert _ rfl _ _ _ 87 rfl 24 45 lawk Try.underlying87 RV (w.heap.size + 1) 0 _ rfl O.out (by unfold maxLen; omega) _ (.func (.func 61) #[] #[]) _ rfl rfl (keyOf_int_mk Try.underlying24 (by decide)) _ [] RV_2 ?_; intro x0 o_ g_; have kb_ := Aside0.mk (blk_grown KB.out g_ (fun e => by injection e with e; omega)); have n0_ := Aside0.mk o_; have n1_ := Aside0.mk (HB.out.grown g_ HB.out.size (fun j hj => by cases hj; omega)); clear O HB o_ g_ KB; have O := n0_; have HB := n1_; have KB := kb_; clear n0_ n1_ kb_) | ((with_reducible refine gate_op (u := .insert 87 (.tmp 13) (.const (.int .u16 3)) (.func 62)) rfl ?_); refine ev_insert _ rfl _ _ _ 87 rfl 24 45 lawk Try.underlying87 RV (w.heap.size + 1) 1 _ rfl O.out (by unfold maxLen; omega) _ (.func (.func 62) #[] #[]) _ rfl rfl (keyOf_int_mk Try.underlying24 (by decide)) _ [] RV_3 ?_; intro x1 o_ g_; have kb_ := Aside0.mk (blk_grown KB.out g_ (fun e => by injection e with e; omega)); have n0_ := Aside0.mk o_; have n1_ := Aside0.mk (HB.out.grown g_ HB.out.size (fun j hj => by cases hj; omega)); clear O HB o_ g_ KB; have O := n0_; have HB := n1_; have KB := kb_; clear n0_ n1_ kb_))
  have lk : (Instr.lookup 87 (.map (some (w.heap.size + 1))) (.int .u16 2) true).run Try.prog x1 = .ok (.tuple #[.nilFunc, .bool false]) x1 := by
    have h := look_m O.out 2 (by decide)
    rw [if_neg (by decide), if_neg (by decide)] at h
    exact h
  clear O
  have n0_ := Aside0.mk lk
  clear lk
  have lk := n0_.out
  clear n0_
  go_upto_region 9 with (fail)
  clear lk hmm
  have kv : x1.cell? ⟨w.heap.size, 0, none⟩ = some (.int .u16 v) := (blk_cell KB.out 0).trans rfl
  go_wp2_with go_in
  go_ret
  exact ⟨by first | rfl | (simp; done), HB.out⟩
theorem may_0_3  {v : Int} (hv : 0 ≤ v ∧ v < 65536) (w : World) :
    Calls Try.prog 43 #[.int .i64 0, .int .u16 3, .int .u16 v] w fun en w' => en = .returned (.bool (v % 256 == 0)) ∧ Below w.heap.size w w' := by
  have HV := Aside0.mk hv
  clear hv
  have hmm := @run_makeMap Try.prog
  have hmf : ∀ (fn : Fn) (first cap : Array Value) (w : World), (Instr.makeFunc fn first cap).run Try.prog w = .ok (.func fn first cap) w := fun _ _ _ _ => rfl
  go_enter Try.func43, Try.ntmps43
  go_upto_region 2 with (fail)
  clear hmf
  have O : Aside0 (((w.alloc (.cells #[.int .u16 v] 24 (0, 0))).alloc (.map #[] 0)).ownsMap Try.prog 24 RV (w.heap.size + 1) 0 D0) := ⟨by have h := World.ownsMap_made (P := Try.prog) (k := 24) (R := RV) (w.alloc (.cells #[.int .u16 v] 24 (0, 0))); rw [World.size_alloc] at h; exact h⟩
  have HB := Aside0.mk (((Below.refl w.heap.size w).alloc (Nat.le_refl _) (.cells #[.int .u16 v] 24 (0, 0))).alloc (by rw [World.size_alloc]; omega) (.map #[] 0))
  have KB := Aside0.mk (show ((w.alloc (.cells #[.int .u16 v] 24 (0, 0))).alloc (.map #[] 0)).heap[w.heap.size]? = some (.cells #[.int .u16 v] 24 (0, 0)) from blk_below (blk_new w (.cells #[.int .u16 v] 24 (0, 0))) (below_alloc (Below.refl _ _) (.map #[] 0)))
  go_upto_region 3 with (first | ((with_reducible refine gate_op (u := .insert 87 (.tmp 13) (.const (.int .u16 1)) (.func 61)) rfl ?_); refine ev_insert _ rfl _ _ _ 87 rfl 24 45 lawk Try.underlying87 RV (w.heap.size + 1) 0 _ rfl O.out (by unfold maxLen; omega) _ (.func (.func 61) #[] #[]) _ rfl rfl (keyOf_int_mk Try.underlying24 (by decide)) _ [] RV_2 ?_; intro x0 o_ g_; have kb_ := Aside0.mk (blk_grown KB.out g_ (fun e => by injection e with e; omega)); have n0_ := Aside0.mk o_; have n1_ := Aside0.mk (HB.out.grown g_ HB.out.size (fun j hj => by cases hj; omega)); clear O HB o_ g_ KB; have O := n0_; have HB := n1_; have KB := kb_; clear n0_ n1_ kb_) | ((with_reducible refine gate_op (u := .insert 87 (.tmp 13) (.const (.int .u16 3)) (.func 62)) rfl ?_); refine ev_insert _ rfl _ _ _ 87 rfl 24 45 lawk Try.underlying87 RV (w.heap.size + 1) 1 _ rfl O.out (by unfold maxLen; omega) _ (.func (.func 62) #[] #[]) _ rfl rfl (keyOf_int_mk Try.underlying24 (by decide)) _ [] RV_3 ?_; intro x1 o_ g_; have kb_ := Aside0.mk (blk_grown KB.out g_ (fun e => by injection e with e; omega)); have n0_ := Aside0.mk o_; have n1_ := Aside0.mk (HB.out.grown g_ HB.out.size (fun j hj => by cases hj; omega)); clear O HB o_ g_ KB; have O := n0_; have HB := n1_; have KB := kb_; clear n0_ n1_ kb_))
  have lk : (Instr.lookup 87 (.map (some (w.heap.size + 1))) (.int .u16 3) true).run Try.prog x1 = .ok (.tuple #[(.func (.func 62) #[] #[]), .bool true]) x1 := by
    have h := look_m O.out 3 (by decide)
    exact h
  clear O
  have n0_ := Aside0.mk lk
  clear lk
  have lk := n0_.out
  clear n0_
  go_upto_region 9 with (fail)
  clear lk hmm
  have kv : x1.cell? ⟨w.heap.size, 0, none⟩ = some (.int .u16 v) := (blk_cell KB.out 0).trans rfl
  go_wp2_with go_in
  go_ret
  exact ⟨by rw [← and255 HV.out]; first | rfl | (simp; done), HB.out⟩
theorem may_0_mid {s : Int} (hs : 0 ≤ s ∧ s < 65536) {v : Int} (hv : 0 ≤ v ∧ v < 65536) (h1 : 11 ≤ s) (h2 : s ≤ 18) (w : World) :
    Calls Try.prog 43 #[.int .i64 0, .int .u16 s, .int .u16 v] w fun en w' => en = .returned (.bool (v == 0)) ∧ Below w.heap.size w w' := by
  have HS := Aside0.mk hs
  have HV := Aside0.mk hv
  clear hs hv
  have e2 : (s == 2) = false := beq_eq_false_iff_ne.2 (by omega)
  have e11 : decide (s ≥ 11) = true := decide_eq_true (by omega)
  have e18 : decide (s ≤ 18) = true := decide_eq_true (by omega)
  have e11b : decide (11 ≤ s) = true := e11
  have HN := Aside0.mk (show s ≠ 1 ∧ s ≠ 3 by omega)
  clear h1 h2
  have hmm := @run_makeMap Try.prog
  have hmf : ∀ (fn : Fn) (first cap : Array Value) (w : World), (Instr.makeFunc fn first cap).run Try.prog w = .ok (.func fn first cap) w := fun _ _ _ _ => rfl
  go_enter Try.func43, Try.ntmps43
  go_upto_region 2 with (fail)
  clear hmf
  have O : Aside0 (((w.alloc (.cells #[.int .u16 v] 24 (0, 0))).alloc (.map #[] 0)).ownsMap Try.prog 24 RV (w.heap.size + 1) 0 D0) := ⟨by have h := World.ownsMap_made (P := Try.prog) (k := 24) (R := RV) (w.alloc (.cells #[.int .u16 v] 24 (0, 0))); rw [World.size_alloc] at h; exact h⟩
  have HB := Aside0.mk (((Below.refl w.heap.size w).alloc (Nat.le_refl _) (.cells #[.int .u16 v] 24 (0, 0))).alloc (by rw [World.size_alloc]; omega) (.map #[] 0))
  have KB := Aside0.mk (show ((w.alloc (.cells #[.int .u16 v] 24 (0, 0))).alloc (.map #[] 0)).heap[w.heap.size]? = some (.cells #[.int .u16 v] 24 (0, 0)) from blk_below (blk_new w (.cells #[.int .u16 v] 24 (0, 0))) (below_alloc (Below.refl _ _) (.map #[] 0)))
  go_upto_region 3 with (first | ((with_reducible refine gate_op (u := .insert 87 (.tmp 13) (.const (.int .u16 1)) (.func 61)) rfl ?_); refine ev_insert _ rfl _ _ _ 87 rfl 24 45 lawk Try.underlying87 RV (w.heap.size + 1) 0 _ rfl O.out (by unfold maxLen; omega) _ (.func (.func 61) #[] #[]) _ rfl rfl (keyOf_int_mk Try.underlying24 (by decide)) _ [] RV_2 ?_; intro x0 o_ g_; have kb_ := Aside0.mk (blk_grown KB.out g_ (fun e => by injection e with e; omega)); have n0_ := Aside0.mk o_; have n1_ := Aside0.mk (HB.out.grown g_ HB.out.size (fun j hj => by cases hj; omega)); clear O HB o_ g_ KB; have O := n0_; have HB := n1_; have KB := kb_; clear n0_ n1_ kb_) | ((with_reducible refine gate_op (u := .insert 87 (.tmp 13) (.const (.int .u16 3)) (.func 62)) rfl ?_); refine ev_insert _ rfl _ _ _ 87 rfl 24 45 lawk Try.underlying87 RV (w.heap.size + 1) 1 _ rfl O.out (by unfold maxLen; omega) _ (.func (.func 62) #[] #[]) _ rfl rfl (keyOf_int_mk Try.underlying24 (by decide)) _ [] RV_3 ?_; intro x1 o_ g_; have kb_ := Aside0.mk (blk_grown KB.out g_ (fun e => by injection e with e; omega)); have n0_ := Aside0.mk o_; have n1_ := Aside0.mk (HB.out.grown g_ HB.out.size (fun j hj => by cases hj; omega)); clear O HB o_ g_ KB; have O := n0_; have HB := n1_; have KB := kb_; clear n0_ n1_ kb_))
  have lk : (Instr.lookup 87 (.map (some (w.heap.size + 1))) (.int .u16 s) true).run Try.prog x1 = .ok (.tuple #[.nilFunc, .bool false]) x1 := by
    have h := look_m O.out s (by simp [Lit.wf, IntKind.min, IntKind.max, IntKind.signed, IntKind.bits]; have := HS.out; omega)
    rw [if_neg HN.out.1, if_neg HN.out.2] at h
    exact h
  clear O
  have n0_ := Aside0.mk lk
  clear lk
  have lk := n0_.out
  clear n0_
  go_upto_region 9 with (fail)
  clear lk hmm
  have kv : x1.cell? ⟨w.heap.size, 0, none⟩ = some (.int .u16 v) := (blk_cell KB.out 0).trans rfl
  go_wp2_with go_in
  go_ret
  exact ⟨by first | rfl | (simp; done), HB.out⟩
theorem may_0_lo {s : Int} (hs : 0 ≤ s ∧ s < 65536) {v : Int} (hv : 0 ≤ v ∧ v < 65536) (h1 : s < 11) (h2 : s ≠ 1) (h3 : s ≠ 2) (h4 : s ≠ 3) (w : World) :
    Calls Try.prog 43 #[.int .i64 0, .int .u16 s, .int .u16 v] w fun en w' => en = .returned (.bool (v == 0)) ∧ Below w.heap.size w w' := by
  have HS := Aside0.mk hs
  have HV := Aside0.mk hv
  clear hs hv
  have e2 : (s == 2) = false := beq_eq_false_iff_ne.2 (by omega)
  have e11 : decide (s ≥ 11) = false := decide_eq_false (by omega)
  have e11b : decide (11 ≤ s) = false := e11
  have HN := Aside0.mk (show s ≠ 1 ∧ s ≠ 3 by omega)
  clear h1 h2 h3 h4
  have hmm := @run_makeMap Try.prog
  have hmf : ∀ (fn : Fn) (first cap : Array Value) (w : World), (Instr.makeFunc fn first cap).run Try.prog w = .ok (.func fn first cap) w := fun _ _ _ _ => rfl
  go_enter Try.func43, Try.ntmps43
  go_upto_region 2 with (fail)
  clear hmf
  have O : Aside0 (((w.alloc (.cells #[.int .u16 v] 24 (0, 0))).alloc (.map #[] 0)).ownsMap Try.prog 24 RV (w.heap.size + 1) 0 D0) := ⟨by have h := World.ownsMap_made (P := Try.prog) (k := 24) (R := RV) (w.alloc (.cells #[.int .u16 v] 24 (0, 0))); rw [World.size_alloc] at h; exact h⟩
  have HB := Aside0.mk (((Below.refl w.heap.size w).alloc (Nat.le_refl _) (.cells #[.int .u16 v] 24 (0, 0))).alloc (by rw [World.size_alloc]; omega) (.map #[] 0))
  have KB := Aside0.mk (show ((w.alloc (.cells #[.int .u16 v] 24 (0, 0))).alloc (.map #[] 0)).heap[w.heap.size]? = some (.cells #[.int .u16 v] 24 (0, 0)) from blk_below (blk_new w (.cells #[.int .u16 v] 24 (0, 0))) (below_alloc (Below.refl _ _) (.map #[] 0)))
  go_upto_region 3 with (first | ((with_reducible refine gate_op (u := .insert 87 (.tmp 13) (.const (.int .u16 1)) (.func 61)) rfl ?_); refine ev_insert _ rfl _ _ _ 87 rfl 24 45 lawk Try.underlying87 RV (w.heap.size + 1) 0 _ rfl O.out (by unfold maxLen; omega) _ (.func (.func 61) #[] #[]) _ rfl rfl (keyOf_int_mk Try.underlying24 (by decide)) _ [] RV_2 ?_; intro x0 o_ g_; have kb_ := Aside0.mk (blk_grown KB.out g_ (fun e => by injection e with e; omega)); have n0_ := Aside0.mk o_; have n1_ := Aside0.mk (HB.out.grown g_ HB.out.size (fun j hj => by cases hj; omega)); clear O HB o_ g_ KB; have O := n0_; have HB := n1_; have KB := kb_; clear n0_ n1_ kb_) | ((with_reducible refine gate_op (u := .insert 87 (.tmp 13) (.const (.int .u16 3)) (.func 62)) rfl ?_); refine ev_insert _ rfl _ _ _ 87 rfl 24 45 lawk Try.underlying87 RV (w.heap.size + 1) 1 _ rfl O.out (by unfold maxLen; omega) _ (.func (.func 62) #[] #[]) _ rfl rfl (keyOf_int_mk Try.underlying24 (by decide)) _ [] RV_3 ?_; intro x1 o_ g_; have kb_ := Aside0.mk (blk_grown KB.out g_ (fun e => by injection e with e; omega)); have n0_ := Aside0.mk o_; have n1_ := Aside0.mk (HB.out.grown g_ HB.out.size (fun j hj => by cases hj; omega)); clear O HB o_ g_ KB; have O := n0_; have HB := n1_; have KB := kb_; clear n0_ n1_ kb_))
  have lk : (Instr.lookup 87 (.map (some (w.heap.size + 1))) (.int .u16 s) true).run Try.prog x1 = .ok (.tuple #[.nilFunc, .bool false]) x1 := by
    have h := look_m O.out s (by simp [Lit.wf, IntKind.min, IntKind.max, IntKind.signed, IntKind.bits]; have := HS.out; omega)
    rw [if_neg HN.out.1, if_neg HN.out.2] at h
    exact h
  clear O
  have n0_ := Aside0.mk lk
  clear lk
  have lk := n0_.out
  clear n0_
  go_upto_region 9 with (fail)
  clear lk hmm
  have kv : x1.cell? ⟨w.heap.size, 0, none⟩ = some (.int .u16 v) := (blk_cell KB.out 0).trans rfl
  go_wp2_with go_in
  go_ret
  exact ⟨by first | rfl | (simp; done), HB.out⟩
theorem may_0_hi {s : Int} (hs : 0 ≤ s ∧ s < 65536) {v : Int} (hv : 0 ≤ v ∧ v < 65536) (h1 : 18 < s) (w : World) :
    Calls Try.prog 43 #[.int .i64 0, .int .u16 s, .int .u16 v] w fun en w' => en = .returned (.bool (v == 0)) ∧ Below w.heap.size w w' := by
  have HS := Aside0.mk hs
  have HV := Aside0.mk hv
  clear hs hv
  have e2 : (s == 2) = false := beq_eq_false_iff_ne.2 (by omega)
  have e11 : decide (s ≥ 11) = true := decide_eq_true (by omega)
  have e18 : decide (s ≤ 18) = false := decide_eq_false (by omega)
  have e11b : decide (11 ≤ s) = true := e11
  have HN := Aside0.mk (show s ≠ 1 ∧ s ≠ 3 by omega)
  clear h1
  have hmm := @run_makeMap Try.prog
  have hmf : ∀ (fn : Fn) (first cap : Array Value) (w : World), (Instr.makeFunc fn first cap).run Try.prog w = .ok (.func fn first cap) w := fun _ _ _ _ => rfl
  go_enter Try.func43, Try.ntmps43
  go_upto_region 2 with (fail)
  clear hmf
  have O : Aside0 (((w.alloc (.cells #[.int .u16 v] 24 (0, 0))).alloc (.map #[] 0)).ownsMap Try.prog 24 RV (w.heap.size + 1) 0 D0) := ⟨by have h := World.ownsMap_made (P := Try.prog) (k := 24) (R := RV) (w.alloc (.cells #[.int .u16 v] 24 (0, 0))); rw [World.size_alloc] at h; exact h⟩
  have HB := Aside0.mk (((Below.refl w.heap.size w).alloc (Nat.le_refl _) (.cells #[.int .u16 v] 24 (0, 0))).alloc (by rw [World.size_alloc]; omega) (.map #[] 0))
  have KB := Aside0.mk (show ((w.alloc (.cells #[.int .u16 v] 24 (0, 0))).alloc (.map #[] 0)).heap[w.heap.size]? = some (.cells #[.int .u16 v] 24 (0, 0)) from blk_below (blk_new w (.cells #[.int .u16 v] 24 (0, 0))) (below_alloc (Below.refl _ _) (.map #[] 0)))
  go_upto_region 3 with (first | ((with_reducible refine gate_op (u := .insert 87 (.tmp 13) (.const (.int .u16 1)) (.func 61)) rfl ?_); refine ev_insert _ rfl _ _ _ 87 rfl 24 45 lawk Try.underlying87 RV (w.heap.size + 1) 0 _ rfl O.out (by unfold maxLen; omega) _ (.func (.func 61) #[] #[]) _ rfl rfl (keyOf_int_mk Try.underlying24 (by decide)) _ [] RV_2 ?_; intro x0 o_ g_; have kb_ := Aside0.mk (blk_grown KB.out g_ (fun e => by injection e with e; omega)); have n0_ := Aside0.mk o_; have n1_ := Aside0.mk (HB.out.grown g_ HB.out.size (fun j hj => by cases hj; omega)); clear O HB o_ g_ KB; have O := n0_; have HB := n1_; have KB := kb_; clear n0_ n1_ kb_) | ((with_reducible refine gate_op (u := .insert 87 (.tmp 13) (.const (.int .u16 3)) (.func 62)) rfl ?_); refine ev_insert _ rfl _ _ _ 87 rfl 24 45 lawk Try.underlying87 RV (w.heap.size + 1) 1 _ rfl O.out (by unfold maxLen; omega) _ (.func (.func 62) #[] #[]) _ rfl rfl (keyOf_int_mk Try.underlying24 (by decide)) _ [] RV_3 ?_; intro x1 o_ g_; have kb_ := Aside0.mk (blk_grown KB.out g_ (fun e => by injection e with e; omega)); have n0_ := Aside0.mk o_; have n1_ := Aside0.mk (HB.out.grown g_ HB.out.size (fun j hj => by cases hj; omega)); clear O HB o_ g_ KB; have O := n0_; have HB := n1_; have KB := kb_; clear n0_ n1_ kb_))
  have lk : (Instr.lookup 87 (.map (some (w.heap.size + 1))) (.int .u16 s) true).run Try.prog x1 = .ok (.tuple #[.nilFunc, .bool false]) x1 := by
    have h := look_m O.out s (by simp [Lit.wf, IntKind.min, IntKind.max, IntKind.signed, IntKind.bits]; have := HS.out; omega)
    rw [if_neg HN.out.1, if_neg HN.out.2] at h
    exact h
  clear O
  have n0_ := Aside0.mk lk
  clear lk
  have lk := n0_.out
  clear n0_
  go_upto_region 9 with (fail)
  clear lk hmm
  have kv : x1.cell? ⟨w.heap.size, 0, none⟩ = some (.int .u16 v) := (blk_cell KB.out 0).trans rfl
  go_wp2_with go_in
  go_ret
  exact ⟨by first | rfl | (simp; done), HB.out⟩
theorem may_1_1  {v : Int} (hv : 0 ≤ v ∧ v < 65536) (w : World) :
    Calls Try.prog 43 #[.int .i64 1, .int .u16 1, .int .u16 v] w fun en w' => en = .returned (.bool (v == 0 || v == 65280)) ∧ Below w.heap.size w w' := by
  have HV := Aside0.mk hv
  clear hv
  have hmm := @run_makeMap Try.prog
  have hmf : ∀ (fn : Fn) (first cap : Array Value) (w : World), (Instr.makeFunc fn first cap).run Try.prog w = .ok (.func fn first cap) w := fun _ _ _ _ => rfl
  go_enter Try.func43, Try.ntmps43
  go_upto_region 2 with (fail)
  clear hmf
  have O : Aside0 (((w.alloc (.cells #[.int .u16 v] 24 (0, 0))).alloc (.map #[] 0)).ownsMap Try.prog 24 RV (w.heap.size + 1) 0 D0) := ⟨by have h := World.ownsMap_made (P := Try.prog) (k := 24) (R := RV) (w.alloc (.cells #[.int .u16 v] 24 (0, 0))); rw [World.size_alloc] at h; exact h⟩
  have HB := Aside0.mk (((Below.refl w.heap.size w).alloc (Nat.le_refl _) (.cells #[.int .u16 v] 24 (0, 0))).alloc (by rw [World.size_alloc]; omega) (.map #[] 0))
  have KB := Aside0.mk (show ((w.alloc (.cells #[.int .u16 v] 24 (0, 0))).alloc (.map #[] 0)).heap[w.heap.size]? = some (.cells #[.int .u16 v] 24 (0, 0)) from blk_below (blk_new w (.cells #[.int .u16 v] 24 (0, 0))) (below_alloc (Below.refl _ _) (.map #[] 0)))
  go_upto_region 3 with (first | ((with_reducible refine gate_op (u := .insert 87 (.tmp 13) (.const (.int .u16 1)) (.func 61)) rfl ?_); refine ev_insert _ rfl _ _ _ 87 rfl 24 45 lawk Try.underlying87 RV (w.heap.size + 1) 0 _ rfl O.out (by unfold maxLen; omega) _ (.func (.func 61) #[] #[]) _ rfl rfl (keyOf_int_mk Try.underlying24 (by decide)) _ [] RV_2 ?_; intro x0 o_ g_; have kb_ := Aside0.mk (blk_grown KB.out g_ (fun e => by injection e with e; omega)); have n0_ := Aside0.mk o_; have n1_ := Aside0.mk (HB.out.grown g_ HB.out.size (fun j hj => by cases hj; omega)); clear O HB o_ g_ KB; have O := n0_; have HB := n1_; have KB := kb_; clear n0_ n1_ kb_) | ((with_reducible refine gate_op (u := .insert 87 (.tmp 13) (.const (.int .u16 3)) (.func 62)) rfl ?_); refine ev_insert _ rfl _ _ _ 87 rfl 24 45 lawk Try.underlying87 RV (w.heap.size + 1) 1 _ rfl O.out (by unfold maxLen; omega) _ (.func (.func 62) #[] #[]) _ rfl rfl (keyOf_int_mk Try.underlying24 (by decide)) _ [] RV_3 ?_; intro x1 o_ g_; have kb_ := Aside0.mk (blk_grown KB.out g_ (fun e => by injection e with e; omega)); have n0_ := Aside0.mk o_; have n1_ := Aside0.mk (HB.out.grown g_ HB.out.size (fun j hj => by cases hj; omega)); clear O HB o_ g_ KB; have O := n0_; have HB := n1_; have KB := kb_; clear n0_ n1_ kb_))
  have lk : (Instr.lookup 87 (.map (some (w.heap.size + 1))) (.int .u16 1) true).run Try.prog x1 = .ok (.tuple #[(.func (.func 61) #[] #[]), .bool true]) x1 := by
    have h := look_m O.out 1 (by decide)
    exact h
  clear O
  have n0_ := Aside0.mk lk
  clear lk
  have lk := n0_.out
  clear n0_
  go_upto_region 9 with (fail)
  clear lk hmm
  have kv : x1.cell? ⟨w.heap.size, 0, none⟩ = some (.int .u16 v) := (blk_cell KB.out 0).trans rfl
  cases hz_ : (v == 0) with
  | true =>
    go_wp2_with go_in
    go_ret
    exact ⟨by first | rfl | (rw [hz_]; rfl) | (simp [hz_]; done), HB.out⟩
  | false =>
    go_wp2_with go_in
    go_ret
    exact ⟨by rw [hz_]; first | rfl | (simp [hz_]; done), HB.out⟩
theorem may_1_2  {v : Int} (hv : 0 ≤ v ∧ v < 65536) (w : World) :
    Calls Try.prog 43 #[.int .i64 1, .int .u16 2, .int .u16 v] w fun en w' => en = .returned (.bool (true)) ∧ Below w.heap.size w w' := by
  have HV := Aside0.mk hv
  clear hv
  have hmm := @run_makeMap Try.prog
  have hmf : ∀ (fn : Fn) (first cap : Array Value) (w : World), (Instr.makeFunc fn first cap).run Try.prog w = .ok (.func fn first cap) w := fun _ _ _ _ => rfl
  go_enter Try.func43, Try.ntmps43
  go_upto_region 2 with (fail)
  clear hmf
  have O : Aside0 (((w.alloc (.cells #[.int .u16 v] 24 (0, 0))).alloc (.map #[] 0)).ownsMap Try.prog 24 RV (w.heap.size + 1) 0 D0) := ⟨by have h := World.ownsMap_made (P := Try.prog) (k := 24) (R := RV) (w.alloc (.cells #[.int .u16 v] 24 (0, 0))); rw [World.size_alloc] at h; exact h⟩
  have HB := Aside0.mk (((Below.refl w.heap.size w).alloc (Nat.le_refl _) (.cells #[.int .u16 v] 24 (0, 0))).alloc (by rw [World.size_alloc]; omega) (.map #[] 0))
  have KB := Aside0.mk (show ((w.alloc (.cells #[.int .u16 v] 24 (0, 0))).alloc (.map #[] 0)).heap[w.heap.size]? = some (.cells #[.int .u16 v] 24 (0, 0)) from blk_below (blk_new w (.cells #[.int .u16 v] 24 (0, 0))) (below_alloc (Below.refl _ _) (.map #[] 0)))
  go_upto_region 3 with (first | ((with_reducible refine gate_op (u := .insert 87 (.tmp 13) (.const (.int .u16 1)) (.func 61)) rfl ?_); refine ev_insert _ rfl _ _ _ 87 rfl 24 45 lawk Try.underlying87 RV (w.heap.size + 1) 0 _ rfl O.out (by unfold maxLen; omega) _ (.func (.func 61) #[] #[]) _ rfl rfl (keyOf_int_mk Try.underlying24 (by decide)) _ [] RV_2 ?_; intro x0 o_ g_; have kb_ := Aside0.mk (blk_grown KB.out g_ (fun e => by injection e with e; omega)); have n0_ := Aside0.mk o_; have n1_ := Aside0.mk (HB.out.grown g_ HB.out.size (fun j hj => by cases hj; omega)); clear O HB o_ g_ KB; have O := n0_; have HB := n1_; have KB := kb_; clear n0_ n1_ kb_) | ((with_reducible refine gate_op (u := .insert 87 (.tmp 13) (.const (.int .u16 3)) (.func 62)) rfl ?_); refine ev_insert _ rfl _ _ _ 87 rfl 24 45 lawk Try.underlying87 RV (w.heap.size + 1) 1 _ rfl O.out (by unfold maxLen; omega) _ (.func (.func 62) #[] #[]) _ rfl rfl (keyOf_int_mk Try.underlying24 (by decide)) _ [] RV_3 ?_; intro x1 o_ g_; have kb_ := Aside0.mk (blk_grown KB.out g_ (fun e => by injection e with e; omega)); have n0_ := Aside0.mk o_; have n1_ := Aside0.mk (HB.out.grown g_ HB.out.size (fun j hj => by cases hj; omega)); clear O HB o_ g_ KB; have O := n0_; have HB := n1_; have KB := kb_; clear n0_ n1_ kb_))
  clear O KB
  go_wp2
  go_ret
  exact ⟨rfl, HB.out⟩
theorem may_1_3  {v : Int} (hv : 0 ≤ v ∧ v < 65536) (w : World) :
    Calls Try.prog 43 #[.int .i64 1, .int .u16 3, .int .u16 v] w fun en w' => en = .returned (.bool (v % 256 == 0)) ∧ Below w.heap.size w w' := by
  have HV := Aside0.mk hv
  clear hv
  have hmm := @run_makeMap Try.prog
  have hmf : ∀ (fn : Fn) (first cap : Array Value) (w : World), (Instr.makeFunc fn first cap).run Try.prog w = .ok (.func fn first cap) w := fun _ _ _ _ => rfl
  go_enter Try.func43, Try.ntmps43
  go_upto_region 2 with (fail)
  clear hmf
  have O : Aside0 (((w.alloc (.cells #[.int .u16 v] 24 (0, 0))).alloc (.map #[] 0)).ownsMap Try.prog 24 RV (w.heap.size + 1) 0 D0) := ⟨by have h := World.ownsMap_made (P := Try.prog) (k := 24) (R := RV) (w.alloc (.cells #[.int .u16 v] 24 (0, 0))); rw [World.size_alloc] at h; exact h⟩
  have HB := Aside0.mk (((Below.refl w.heap.size w).alloc (Nat.le_refl _) (.cells #[.int .u16 v] 24 (0, 0))).alloc (by rw [World.size_alloc]; omega) (.map #[] 0))
  have KB := Aside0.mk (show ((w.alloc (.cells #[.int .u16 v] 24 (0, 0))).alloc (.map #[] 0)).heap[w.heap.size]? = some (.cells #[.int .u16 v] 24 (0, 0)) from blk_below (blk_new w (.cells #[.int .u16 v] 24 (0, 0))) (below_alloc (Below.refl _ _) (.map #[] 0)))
  go_upto_region 3 with (first | ((with_reducible refine gate_op (u := .insert 87 (.tmp 13) (.const (.int .u16 1)) (.func 61)) rfl ?_); refine ev_insert _ rfl _ _ _ 87 rfl 24 45 lawk Try.underlying87 RV (w.heap.size + 1) 0 _ rfl O.out (by unfold maxLen; omega) _ (.func (.func 61) #[] #[]) _ rfl rfl (keyOf_int_mk Try.underlying24 (by decide)) _ [] RV_2 ?_; intro x0 o_ g_; have kb_ := Aside0.mk (blk_grown KB.out g_ (fun e => by injection e with e; omega)); have n0_ := Aside0.mk o_; have n1_ := Aside0.mk (HB.out.grown g_ HB.out.size (fun j hj => by cases hj; omega)); clear O HB o_ g_ KB; have O := n0_; have HB := n1_; have KB := kb_; clear n0_ n1_ kb_) | ((with_reducible refine gate_op (u := .insert 87 (.tmp 13) (.const (.int .u16 3)) (.func 62)) rfl ?_); refine ev_insert _ rfl _ _ _ 87 rfl 24 45 lawk Try.underlying87 RV (w.heap.size + 1) 1 _ rfl O.out (by unfold maxLen; omega) _ (.func (.func 62) #[] #[]) _ rfl rfl (keyOf_int_mk Try.underlying24 (by decide)) _ [] RV_3 ?_; intro x1 o_ g_; have kb_ := Aside0.mk (blk_grown KB.out g_ (fun e => by injection e with e; omega)); have n0_ := Aside0.mk o_; have n1_ := Aside0.mk (HB.out.grown g_ HB.out.size (fun j hj => by cases hj; omega)); clear O HB o_ g_ KB; have O := n0_; have HB := n1_; have KB := kb_; clear n0_ n1_ kb_))
  have lk : (Instr.lookup 87 (.map (some (w.heap.size + 1))) (.int .u16 3) true).run Try.prog x1 = .ok (.tuple #[(.func (.func 62) #[] #[]), .bool true]) x1 := by
    have h := look_m O.out 3 (by decide)
    exact h
  clear O
  have n0_ := Aside0.mk lk
  clear lk
  have lk := n0_.out
  clear n0_
  go_upto_region 9 with (fail)
  clear lk hmm
  have kv : x1.cell? ⟨w.heap.size, 0, none⟩ = some (.int .u16 v) := (blk_cell KB.out 0).trans rfl
  go_wp2_with go_in
  go_ret
  exact ⟨by rw [← and255 HV.out]; first | rfl | (simp; done), HB.out⟩
theorem may_1_mid {s : Int} (hs : 0 ≤ s ∧ s < 65536) {v : Int} (hv : 0 ≤ v ∧ v < 65536) (h1 : 11 ≤ s) (h2 : s ≤ 18) (w : World) :
    Calls Try.prog 43 #[.int .i64 1, .int .u16 s, .int .u16 v] w fun en w' => en = .returned (.bool (true)) ∧ Below w.heap.size w w' := by
  have HS := Aside0.mk hs
  have HV := Aside0.mk hv
  clear hs hv
  have e2 : (s == 2) = false := beq_eq_false_iff_ne.2 (by omega)
  have e11 : decide (s ≥ 11) = true := decide_eq_true (by omega)
  have e18 : decide (s ≤ 18) = true := decide_eq_true (by omega)
  have e11b : decide (11 ≤ s) = true := e11
  have HN := Aside0.mk (show s ≠ 1 ∧ s ≠ 3 by omega)
  clear h1 h2
  have hmm := @run_makeMap Try.prog
  have hmf : ∀ (fn : Fn) (first cap : Array Value) (w : World), (Instr.makeFunc fn first cap).run Try.prog w = .ok (.func fn first cap) w := fun _ _ _ _ => rfl
  go_enter Try.func43, Try.ntmps43
  go_upto_region 2 with (fail)
  clear hmf
  have O : Aside0 (((w.alloc (.cells #[.int .u16 v] 24 (0, 0))).alloc (.map #[] 0)).ownsMap Try.prog 24 RV (w.heap.size + 1) 0 D0) := ⟨by have h := World.ownsMap_made (P := Try.prog) (k := 24) (R := RV) (w.alloc (.cells #[.int .u16 v] 24 (0, 0))); rw [World.size_alloc] at h; exact h⟩
  have HB := Aside0.mk (((Below.refl w.heap.size w).alloc (Nat.le_refl _) (.cells #[.int .u16 v] 24 (0, 0))).alloc (by rw [World.size_alloc]; omega) (.map #[] 0))
  have KB := Aside0.mk (show ((w.alloc (.cells #[.int .u16 v] 24 (0, 0))).alloc (.map #[] 0)).heap[w.heap.size]? = some (.cells #[.int .u16 v] 24 (0, 0)) from blk_below (blk_new w (.cells #[.int .u16 v] 24 (0, 0))) (below_alloc (Below.refl _ _) (.map #[] 0)))
  go_upto_region 3 with (first | ((with_reducible refine gate_op (u := .insert 87 (.tmp 13) (.const (.int .u16 1)) (.func 61)) rfl ?_); refine ev_insert _ rfl _ _ _ 87 rfl 24 45 lawk Try.underlying87 RV (w.heap.size + 1) 0 _ rfl O.out (by unfold maxLen; omega) _ (.func (.func 61) #[] #[]) _ rfl rfl (keyOf_int_mk Try.underlying24 (by decide)) _ [] RV_2 ?_; intro x0 o_ g_; have kb_ := Aside0.mk (blk_grown KB.out g_ (fun e => by injection e with e; omega)); have n0_ := Aside0.mk o_; have n1_ := Aside0.mk (HB.out.grown g_ HB.out.size (fun j hj => by cases hj; omega)); clear O HB o_ g_ KB; have O := n0_; have HB := n1_; have KB := kb_; clear n0_ n1_ kb_) | ((with_reducible refine gate_op (u := .insert 87 (.tmp 13) (.const (.int .u16 3)) (.func 62)) rfl ?_); refine ev_insert _ rfl _ _ _ 87 rfl 24 45 lawk Try.underlying87 RV (w.heap.size + 1) 1 _ rfl O.out (by unfold maxLen; omega) _ (.func (.func 62) #[] #[]) _ rfl rfl (keyOf_int_mk Try.underlying24 (by decide)) _ [] RV_3 ?_; intro x1 o_ g_; have kb_ := Aside0.mk (blk_grown KB.out g_ (fun e => by injection e with e; omega)); have n0_ := Aside0.mk o_; have n1_ := Aside0.mk (HB.out.grown g_ HB.out.size (fun j hj => by cases hj; omega)); clear O HB o_ g_ KB; have O := n0_; have HB := n1_; have KB := kb_; clear n0_ n1_ kb_))
  clear O KB
  go_wp2
  go_ret
  exact ⟨rfl, HB.out⟩
theorem may_1_lo {s : Int} (hs : 0 ≤ s ∧ s < 65536) {v : Int} (hv : 0 ≤ v ∧ v < 65536) (h1 : s < 11) (h2 : s ≠ 1) (h3 : s ≠ 2) (h4 : s ≠ 3) (w : World) :
    Calls Try.prog 43 #[.int .i64 1, .int .u16 s, .int .u16 v] w fun en w' => en = .returned (.bool (v == 0)) ∧ Below w.heap.size w w' := by
  have HS := Aside0.mk hs
  have HV := Aside0.mk hv
  clear hs hv
  have e2 : (s == 2) = false := beq_eq_false_iff_ne.2 (by omega)
  have e11 : decide (s ≥ 11) = false := decide_eq_false (by omega)
  have e11b : decide (11 ≤ s) = false := e11
  have HN := Aside0.mk (show s ≠ 1 ∧ s ≠ 3 by omega)
  clear h1 h2 h3 h4
  have hmm := @run_makeMap Try.prog
  have hmf : ∀ (fn : Fn) (first cap : Array Value) (w : World), (Instr.makeFunc fn first cap).run Try.prog w = .ok (.func fn first cap) w := fun _ _ _ _ => rfl
  go_enter Try.func43, Try.ntmps43
  go_upto_region 2 with (fail)
  clear hmf
  have O : Aside0 (((w.alloc (.cells #[.int .u16 v] 24 (0, 0))).alloc (.map #[] 0)).ownsMap Try.prog 24 RV (w.heap.size + 1) 0 D0) := ⟨by have h := World.ownsMap_made (P := Try.prog) (k := 24) (R := RV) (w.alloc (.cells #[.int .u16 v] 24 (0, 0))); rw [World.size_alloc] at h; exact h⟩
  have HB := Aside0.mk (((Below.refl w.heap.size w).alloc (Nat.le_refl _) (.cells #[.int .u16 v] 24 (0, 0))).alloc (by rw [World.size_alloc]; omega) (.map #[] 0))
  have KB := Aside0.mk (show ((w.alloc (.cells #[.int .u16 v] 24 (0, 0))).alloc (.map #[] 0)).heap[w.heap.size]? = some (.cells #[.int .u16 v] 24 (0, 0)) from blk_below (blk_new w (.cells #[.int .u16 v] 24 (0, 0))) (below_alloc (Below.refl _ _) (.map #[] 0)))
  go_upto_region 3 with (first | ((with_reducible refine gate_op (u := .insert 87 (.tmp 13) (.const (.int .u16 1)) (.func 61)) rfl ?_); refine ev_insert _ rfl _ _ _ 87 rfl 24 45 lawk Try.underlying87 RV (w.heap.size + 1) 0 _ rfl O.out (by unfold maxLen; omega) _ (.func (.func 61) #[] #[]) _ rfl rfl (keyOf_int_mk Try.underlying24 (by decide)) _ [] RV_2 ?_; intro x0 o_ g_; have kb_ := Aside0.mk (blk_grown KB.out g_ (fun e => by injection e with e; omega)); have n0_ := Aside0.mk o_; have n1_ := Aside0.mk (HB.out.grown g_ HB.out.size (fun j hj => by cases hj; omega)); clear O HB o_ g_ KB; have O := n0_; have HB := n1_; have KB := kb_; clear n0_ n1_ kb_) | ((with_reducible refine gate_op (u := .insert 87 (.tmp 13) (.const (.int .u16 3)) (.func 62)) rfl ?_); refine ev_insert _ rfl _ _ _ 87 rfl 24 45 lawk Try.underlying87 RV (w.heap.size + 1) 1 _ rfl O.out (by unfold maxLen; omega) _ (.func (.func 62) #[] #[]) _ rfl rfl (keyOf_int_mk Try.underlying24 (by decide)) _ [] RV_3 ?_; intro x1 o_ g_; have kb_ := Aside0.mk (blk_grown KB.out g_ (fun e => by injection e with e; omega)); have n0_ := Aside0.mk o_; have n1_ := Aside0.mk (HB.out.grown g_ HB.out.size (fun j hj => by cases hj; omega)); clear O HB o_ g_ KB; have O := n0_; have HB := n1_; have KB := kb_; clear n0_ n1_ kb_))
  have lk : (Instr.lookup 87 (.map (some (w.heap.size + 1))) (.int .u16 s) true).run Try.prog x1 = .ok (.tuple #[.nilFunc, .bool false]) x1 := by
    have h := look_m O.out s (by simp [Lit.wf, IntKind.min, IntKind.max, IntKind.signed, IntKind.bits]; have := HS.out; omega)
    rw [if_neg HN.out.1, if_neg HN.out.2] at h
    exact h
  clear O
  have n0_ := Aside0.mk lk
  clear lk
  have lk := n0_.out
  clear n0_
  go_upto_region 9 with (fail)
  clear lk hmm
  have kv : x1.cell? ⟨w.heap.size, 0, none⟩ = some (.int .u16 v) := (blk_cell KB.out 0).trans rfl
  go_wp2_with go_in
  go_ret
  exact ⟨by first | rfl | (simp; done), HB.out⟩
theorem may_1_hi {s : Int} (hs : 0 ≤ s ∧ s < 65536) {v : Int} (hv : 0 ≤ v ∧ v < 65536) (h1 : 18 < s) (w : World) :
    Calls Try.prog 43 #[.int .i64 1, .int .u16 s, .int .u16 v] w fun en w' => en = .returned (.bool (v == 0)) ∧ Below w.heap.size w w' := by
  have HS := Aside0.mk hs
  have HV := Aside0.mk hv
  clear hs hv
  have e2 : (s == 2) = false := beq_eq_false_iff_ne.2 (by omega)
  have e11 : decide (s ≥ 11) = true := decide_eq_true (by omega)
  have e18 : decide (s ≤ 18) = false := decide_eq_false (by omega)
  have e11b : decide (11 ≤ s) = true := e11
  have HN := Aside0.mk (show s ≠ 1 ∧ s ≠ 3 by omega)
  clear h1
  have hmm := @run_makeMap Try.prog
  have hmf : ∀ (fn : Fn) (first cap : Array Value) (w : World), (Instr.makeFunc fn first cap).run Try.prog w = .ok (.func fn first cap) w := fun _ _ _ _ => rfl
  go_enter Try.func43, Try.ntmps43
  go_upto_region 2 with (fail)
  clear hmf
  have O : Aside0 (((w.alloc (.cells #[.int .u16 v] 24 (0, 0))).alloc (.map #[] 0)).ownsMap Try.prog 24 RV (w.heap.size + 1) 0 D0) := ⟨by have h := World.ownsMap_made (P := Try.prog) (k := 24) (R := RV) (w.alloc (.cells #[.int .u16 v] 24 (0, 0))); rw [World.size_alloc] at h; exact h⟩
  have HB := Aside0.mk (((Below.refl w.heap.size w).alloc (Nat.le_refl _) (.cells #[.int .u16 v] 24 (0, 0))).alloc (by rw [World.size_alloc]; omega) (.map #[] 0))
  have KB := Aside0.mk (show ((w.alloc (.cells #[.int .u16 v] 24 (0, 0))).alloc (.map #[] 0)).heap[w.heap.size]? = some (.cells #[.int .u16 v] 24 (0, 0)) from blk_below (blk_new w (.cells #[.int .u16 v] 24 (0, 0))) (below_alloc (Below.refl _ _) (.map #[] 0)))
  go_upto_region 3 with (first | ((with_reducible refine gate_op (u := .insert 87 (.tmp 13) (.const (.int .u16 1)) (.func 61)) rfl ?_); refine ev_insert _ rfl _ _ _ 87 rfl 24 45 lawk Try.underlying87 RV (w.heap.size + 1) 0 _ rfl O.out (by unfold maxLen; omega) _ (.func (.func 61) #[] #[]) _ rfl rfl (keyOf_int_mk Try.underlying24 (by decide)) _ [] RV_2 ?_; intro x0 o_ g_; have kb_ := Aside0.mk (blk_grown KB.out g_ (fun e => by injection e with e; omega)); have n0_ := Aside0.mk o_; have n1_ := Aside0.mk (HB.out.grown g_ HB.out.size (fun j hj => by cases hj; omega)); clear O HB o_ g_ KB; have O := n0_; have HB := n1_; have KB := kb_; clear n0_ n1_ kb_) | ((with_reducible refine gate_op (u := .insert 87 (.tmp 13) (.const (.int .u16 3)) (.func 62)) rfl ?_); refine ev_insert _ rfl _ _ _ 87 rfl 24 45 lawk Try.underlying87 RV (w.heap.size + 1) 1 _ rfl O.out (by unfold maxLen; omega) _ (.func (.func 62) #[] #[]) _ rfl rfl (keyOf_int_mk Try.underlying24 (by decide)) _ [] RV_3 ?_; intro x1 o_ g_; have kb_ := Aside0.mk (blk_grown KB.out g_ (fun e => by injection e with e; omega)); have n0_ := Aside0.mk o_; have n1_ := Aside0.mk (HB.out.grown g_ HB.out.size (fun j hj => by cases hj; omega)); clear O HB o_ g_ KB; have O := n0_; have HB := n1_; have KB := kb_; clear n0_ n1_ kb_))
  have lk : (Instr.lookup 87 (.map (some (w.heap.size + 1))) (.int .u16 s) true).run Try.prog x1 = .ok (.tuple #[.nilFunc, .bool false]) x1 := by
    have h := look_m O.out s (by simp [Lit.wf, IntKind.min, IntKind.max, IntKind.signed, IntKind.bits]; have := HS.out; omega)
    rw [if_neg HN.out.1, if_neg HN.out.2] at h
    exact h
  clear O
  have n0_ := Aside0.mk lk
  clear lk
  have lk := n0_.out
  clear n0_
  go_upto_region 9 with (fail)
  clear lk hmm
  have kv : x1.cell? ⟨w.heap.size, 0, none⟩ = some (.int .u16 v) := (blk_cell KB.out 0).trans rfl
  go_wp2_with go_in
  go_ret
  exact ⟨by first | rfl | (simp; done), HB.out⟩
theorem may_any {d s v : Int} (hd : d = 0 ∨ d = 1) (hs : 0 ≤ s ∧ s < 65536) (hv : 0 ≤ v ∧ v < 65536) (w : World) :
    Calls Try.prog 43 #[.int .i64 d, .int .u16 s, .int .u16 v] w fun en w' => en = .returned (.bool (mayB d s v)) ∧ Below w.heap.size w w' := by
  rcases hd with rfl | rfl
  · by_cases e1 : s = 1
    · subst e1; exact may_0_1 hv w
    by_cases e2 : s = 2
    · subst e2; exact may_0_2 hv w
    by_cases e3 : s = 3
    · subst e3; exact may_0_3 hv w
    by_cases h11 : 11 ≤ s
    · by_cases h18 : s ≤ 18
      · rw [show mayB 0 s v = (v == 0) by unfold mayB; rw [if_neg (fun h => absurd h.2 (by decide)), if_neg e1, if_neg e3]]; exact may_0_mid hs hv h11 h18 w
      · rw [show mayB 0 s v = (v == 0) by unfold mayB; rw [if_neg (by omega), if_neg e1, if_neg e3]]; exact may_0_hi hs hv (by omega) w
    · rw [show mayB 0 s v = (v == 0) by unfold mayB; rw [if_neg (by omega), if_neg e1, if_neg e3]]; exact may_0_lo hs hv (by omega) e1 e2 e3 w
  · by_cases e1 : s = 1
    · subst e1; exact may_1_1 hv w
    by_cases e2 : s = 2
    · subst e2; exact may_1_2 hv w
    by_cases e3 : s = 3
    · subst e3; exact may_1_3 hv w
    by_cases h11 : 11 ≤ s
    · by_cases h18 : s ≤ 18
      · rw [show mayB 1 s v = true from if_pos ⟨.inr ⟨h11, h18⟩, rfl⟩]; exact may_1_mid hs hv h11 h18 w
      · rw [show mayB 1 s v = (v == 0) by unfold mayB; rw [if_neg (by omega), if_neg e1, if_neg e3]]; exact may_1_hi hs hv (by omega) w
    · rw [show mayB 1 s v = (v == 0) by unfold mayB; rw [if_neg (by omega), if_neg e1, if_neg e3]]; exact may_1_lo hs hv (by omega) e1 e2 e3 w
theorem busy_any {w0 w : World} {gr g gm : Nat} {c0 : Cu} {m : Msg} (h : PS.St w0 gr g gm w c0 m) :
    Calls Try.prog 46 #[.pointer (some ⟨g, 0, none⟩)] w fun en w' => en = .returned (.int .u16 (busyR c0).2) ∧ PS.St w0 gr g gm w' (busyR c0).1 m := by
  have HP := Aside0.mk h
  clear h
  go_enter Try.func46, Try.ntmps46
  go_upto_region 2 with (first | (go_at_call 39; obtain ⟨l0, h0⟩ := Cu.wordV_bd (PS.St.good HP.out); (with_reducible refine (PS.St.word HP.out).mono ?_); rintro en x1 ⟨rfl, hp_⟩; obtain ⟨c1, ec_⟩ : ∃ z, z = c0.wordS := ⟨_, rfl⟩; rw [← ec_] at hp_; have Ec1 := Aside0.mk ec_; clear ec_; have n0_ := Aside0.mk hp_; clear HP hp_; have HP := n0_; clear n0_))
  obtain ⟨c2, e_⟩ : ∃ z, z = c1.need (c0.wordV == 0 || c0.wordV == 65535) 6 := ⟨_, rfl⟩
  have Ec2 := Aside0.mk e_
  clear e_
  go_cut [] from 6 to 14 (fun wx => Aside0 (PS.St w0 gr g gm wx c2 (m)))
  case first =>
    cases hs0_ : (c0.wordV == 0) with
    | true =>
      have hs0a_ : (c0.wordV != 0) = false := by first | exact hs0_ | (rw [bne, hs0_]; rfl) | (have := hs0_; rw [bne] at this; simpa using this)
      have eb_ : (c0.wordV == 0 || c0.wordV == 65535) = (true) := by first | (simp only [hs0_]; first | rfl | (simp; done)) | (simp [hs0_]; done) | (simp only [bne, hs0_]; first | rfl | (simp; done))
      have EB_ := Aside0.mk eb_
      clear eb_
      go_wp2_with (first | (go_at_call 40; (with_reducible refine (PS.St.need HP.out (true) 6).mono ?_); rintro en x2 ⟨rfl, hp_⟩; have n0_ := Aside0.mk hp_; clear HP hp_; have HP := n0_; clear n0_))
      go_meet
      rw [Ec2.out, EB_.out]
      exact HP
    | false =>
      have hs0a_ : (c0.wordV != 0) = true := by first | exact hs0_ | (rw [bne, hs0_]; rfl) | (have := hs0_; rw [bne] at this; simpa using this)
      have eb_ : (c0.wordV == 0 || c0.wordV == 65535) = (c0.wordV == 65535) := by first | (simp only [hs0_]; first | rfl | (simp; done)) | (simp [hs0_]; done) | (simp only [bne, hs0_]; first | rfl | (simp; done))
      have EB_ := Aside0.mk eb_
      clear eb_
      go_wp2_with (first | (go_at_call 40; (with_reducible refine (PS.St.need HP.out (c0.wordV == 65535) 6).mono ?_); rintro en x2 ⟨rfl, hp_⟩; have n0_ := Aside0.mk hp_; clear HP hp_; have HP := n0_; clear n0_))
      go_meet
      rw [Ec2.out, EB_.out]
      exact HP
  case rest =>
  clear HP
  have HP := hcut
  clear hcut
  go_wp2
  go_ret
  have eq_ : busyR c0 = (c2, c0.wordV) := by
    rw [Ec2.out, Ec1.out]
    rfl
  rw [eq_]
  exact ⟨rfl, HP.out⟩
theorem busy_bd {c c1 : Cu} {v : Int} (h : c.good) (e : (c1, v) = busyR c) : 0 ≤ v ∧ v < 65536 := by
  have e2 : v = c.wordV := congrArg Prod.snd e
  rw [e2]
  exact Cu.wordV_bd h
theorem answer_7 {w0 w : World} {gr g gm : Nat} {c0 : Cu} {m : Msg} (h : PS.St w0 gr g gm w c0 m) (hk : m.code = 7) :
    Calls Try.prog 22 #[.pointer (some ⟨g, 0, none⟩), .pointer (some ⟨gm, 0, none⟩)] w fun en w' => en = .returned (.tuple #[]) ∧ PS.St w0 gr g gm w' (ansR m c0).1 (ansR m c0).2 := by
  have HP := Aside0.mk h
  have HK := Aside0.mk hk
  clear h
  have b7 : (m.code == 7) = true := beq_iff_eq.2 hk
  have b11 : (m.code == 11) = false := beq_eq_false_iff_ne.2 (by omega)
  have b12 : (m.code == 12) = false := beq_eq_false_iff_ne.2 (by omega)
  have b17 : (m.code == 17) = false := beq_eq_false_iff_ne.2 (by omega)
  clear hk
  obtain ⟨kcode, fcode⟩ := PS.St.at_code HP.out
  go_enter Try.func22, Try.ntmps22
  go_upto_region 2 with (fail)
  have wu : IntKind.u16.wrap c0.byteV = c0.byteV := by
    obtain ⟨l_, h_⟩ := Cu.byteV_bd (PS.St.good HP.out)
    rw [IntKind.wrap_u16]
    omega
  go_wp2_with (first | (go_at_call 45; obtain ⟨l0, h0⟩ := Cu.byteV_bd (PS.St.good HP.out); (with_reducible refine (PS.St.byte HP.out).mono ?_); rintro en x1 ⟨rfl, hp_⟩; obtain ⟨c1, ec_⟩ : ∃ z, z = c0.byteS := ⟨_, rfl⟩; rw [← ec_] at hp_; have Ec1 := Aside0.mk ec_; clear ec_; obtain ⟨kvalue, fvalue⟩ := PS.St.at_value hp_; have n0_ := Aside0.mk hp_; clear HP hp_; have HP := n0_; clear n0_))
  have hp_ := HP.out.put_value ⟨l0, by omega⟩
  have n0_ := Aside0.mk hp_
  clear HP hp_
  have HP := n0_
  clear n0_
  have eq_ : ansR m c0 = (c1, { m with value := c0.byteV }) := by
    unfold ansR
    rw [if_pos HK.out]
    simp only [ansR, eventsR, logsR, nameR, Rd.bind, Rd.byte, Rd.word, Rd.bytes, Rd.words, Rd.need, Rd.ret, leftR, ← Ec1.out]
  rw [eq_]
  exact bodyPost_end (results_none rfl _ _ _) rfl (⟨rfl, HP.out⟩)
theorem answer_11 {w0 w : World} {gr g gm : Nat} {c0 : Cu} {m : Msg} (h : PS.St w0 gr g gm w c0 m) (hk : m.code = 11) :
    Calls Try.prog 22 #[.pointer (some ⟨g, 0, none⟩), .pointer (some ⟨gm, 0, none⟩)] w fun en w' => en = .returned (.tuple #[]) ∧ PS.St w0 gr g gm w' (ansR m c0).1 (ansR m c0).2 := by
  have HP := Aside0.mk h
  have HK := Aside0.mk hk
  have HP0 := HP
  clear h
  have b7 : (m.code == 7) = false := beq_eq_false_iff_ne.2 (by omega)
  have b11 : (m.code == 11) = true := beq_iff_eq.2 hk
  have b12 : (m.code == 12) = false := beq_eq_false_iff_ne.2 (by omega)
  have b17 : (m.code == 17) = false := beq_eq_false_iff_ne.2 (by omega)
  clear hk
  obtain ⟨kcode, fcode⟩ := PS.St.at_code HP.out
  go_enter Try.func22, Try.ntmps22
  go_upto_region 4 with (fail)
  go_upto_region 5 with (first | (go_at_call 46; (with_reducible refine (busy_any HP.out).mono ?_); rintro en x1 ⟨rfl, hp_⟩; obtain ⟨z_, ez_⟩ : ∃ z, z = busyR c0 := ⟨_, rfl⟩; rw [← ez_] at hp_ ⊢; obtain ⟨c1, s1⟩ := z_; have Ezc1 := Aside0.mk ez_; clear ez_; replace hp_ : PS.St w0 gr g gm _ c1 m := hp_; obtain ⟨kstatus, fstatus⟩ := PS.St.at_status hp_; have n0_ := Aside0.mk hp_; clear HP hp_; have HP := n0_; clear n0_))
  obtain ⟨ls, hs⟩ := busy_bd (PS.St.good HP0.out) Ezc1.out
  have hp_ := HP.out.put_status ⟨ls, hs⟩
  have n0_ := Aside0.mk hp_
  clear HP hp_
  have HP := n0_
  clear n0_
  go_wp2_with (first | (go_at_call 39; obtain ⟨l1, h1⟩ := Cu.wordV_bd (PS.St.good HP.out); (with_reducible refine (PS.St.word HP.out).mono ?_); rintro en x2 ⟨rfl, hp_⟩; obtain ⟨c2, ec_⟩ : ∃ z, z = c1.wordS := ⟨_, rfl⟩; rw [← ec_] at hp_; have Ec2 := Aside0.mk ec_; clear ec_; obtain ⟨kevents, fevents⟩ := PS.St.at_events hp_; have n0_ := Aside0.mk hp_; clear HP hp_; have HP := n0_; clear n0_))
  have hp_ := HP.out.put_events ⟨l1, h1⟩
  have n0_ := Aside0.mk hp_
  clear HP hp_
  have HP := n0_
  clear n0_
  have eq_ : ansR m c0 = (c2, { m with status := s1, events := c1.wordV }) := by
    unfold ansR
    rw [if_neg (by have := HK.out; omega)]
    rw [if_pos HK.out]
    simp only [ansR, eventsR, logsR, nameR, Rd.bind, Rd.byte, Rd.word, Rd.bytes, Rd.words, Rd.need, Rd.ret, leftR, ← Ezc1.out, ← Ec2.out]
  rw [eq_]
  exact bodyPost_end (results_none rfl _ _ _) rfl (⟨rfl, HP.out⟩)
theorem answer_12 {w0 w : World} {gr g gm : Nat} {c0 : Cu} {m : Msg} (h : PS.St w0 gr g gm w c0 m) (hk : m.code = 12) :
    Calls Try.prog 22 #[.pointer (some ⟨g, 0, none⟩), .pointer (some ⟨gm, 0, none⟩)] w fun en w' => en = .returned (.tuple #[]) ∧ PS.St w0 gr g gm w' (ansR m c0).1 (ansR m c0).2 := by
  have HP := Aside0.mk h
  have HK := Aside0.mk hk
  clear h
  have b7 : (m.code == 7) = false := beq_eq_false_iff_ne.2 (by omega)
  have b11 : (m.code == 11) = false := beq_eq_false_iff_ne.2 (by omega)
  have b12 : (m.code == 12) = true := beq_iff_eq.2 hk
  have b17 : (m.code == 17) = false := beq_eq_false_iff_ne.2 (by omega)
  clear hk
  obtain ⟨kcode, fcode⟩ := PS.St.at_code HP.out
  go_enter Try.func22, Try.ntmps22
  go_upto_region 7 with (fail)
  go_upto_region 8 with (first | (go_at_call 45; obtain ⟨l0, h0⟩ := Cu.byteV_bd (PS.St.good HP.out); (with_reducible refine (PS.St.byte HP.out).mono ?_); rintro en x1 ⟨rfl, hp_⟩; obtain ⟨c1, ec_⟩ : ∃ z, z = c0.byteS := ⟨_, rfl⟩; rw [← ec_] at hp_; have Ec1 := Aside0.mk ec_; clear ec_; have n0_ := Aside0.mk hp_; clear HP hp_; have HP := n0_; clear n0_))
  have wk := wrap64_id (x := c0.byteV) (by omega) (by omega)
  have wkb : IntKind.i64.wrap (c0.byteV) = c0.byteV := by rw [i64_w]; exact wk
  have w6 : wrap64 (c0.byteV - 6) = c0.byteV - 6 := wrap64_id (by omega) (by omega)
  obtain ⟨c2, e_⟩ : ∃ z, z = c1.need (decide (6 ≤ c0.byteV) && decide (c0.byteV ≤ 70)) 5 := ⟨_, rfl⟩
  have Ec2 := Aside0.mk e_
  clear e_
  go_cut [] from 35 to 43 (fun wx => Aside0 (PS.St w0 gr g gm wx c2 (m)))
  case first =>
    cases hs0_ : (decide (6 ≤ c0.byteV)) with
    | true =>
      have hs0a_ : (decide (c0.byteV ≥ 6)) = true := by first | exact hs0_ | (rw [bne, hs0_]; rfl) | (have := hs0_; rw [bne] at this; simpa using this)
      have eb_ : (decide (6 ≤ c0.byteV) && decide (c0.byteV ≤ 70)) = (decide (c0.byteV ≤ 70)) := by first | (simp only [hs0_]; first | rfl | (simp; done)) | (simp [hs0_]; done) | (simp only [bne, hs0_]; first | rfl | (simp; done))
      have EB_ := Aside0.mk eb_
      clear eb_
      go_wp2_with (first | (go_at_call 40; (with_reducible refine (PS.St.need HP.out (decide (c0.byteV ≤ 70)) 5).mono ?_); rintro en x2 ⟨rfl, hp_⟩; have n0_ := Aside0.mk hp_; clear HP hp_; have HP := n0_; clear n0_))
      go_meet
      rw [Ec2.out, EB_.out]
      exact HP
    | false =>
      have hs0a_ : (decide (c0.byteV ≥ 6)) = false := by first | exact hs0_ | (rw [bne, hs0_]; rfl) | (have := hs0_; rw [bne] at this; simpa using this)
      have eb_ : (decide (6 ≤ c0.byteV) && decide (c0.byteV ≤ 70)) = (false) := by first | (simp only [hs0_]; first | rfl | (simp; done)) | (simp [hs0_]; done) | (simp only [bne, hs0_]; first | rfl | (simp; done))
      have EB_ := Aside0.mk eb_
      clear eb_
      go_wp2_with (first | (go_at_call 40; (with_reducible refine (PS.St.need HP.out (false) 5).mono ?_); rintro en x2 ⟨rfl, hp_⟩; have n0_ := Aside0.mk hp_; clear HP hp_; have HP := n0_; clear n0_))
      go_meet
      rw [Ec2.out, EB_.out]
      exact HP
  case rest =>
  clear HP
  have HP := hcut
  clear hcut
  have HP0 := HP
  go_upto_region 10 with (first | (go_at_call 46; (with_reducible refine (busy_any HP.out).mono ?_); rintro en x3 ⟨rfl, hp_⟩; obtain ⟨z_, ez_⟩ : ∃ z, z = busyR c2 := ⟨_, rfl⟩; rw [← ez_] at hp_ ⊢; obtain ⟨c3, s3⟩ := z_; have Ezc3 := Aside0.mk ez_; clear ez_; replace hp_ : PS.St w0 gr g gm _ c3 m := hp_; obtain ⟨kstatus, fstatus⟩ := PS.St.at_status hp_; have n0_ := Aside0.mk hp_; clear HP hp_; have HP := n0_; clear n0_))
  obtain ⟨ls, hs⟩ := busy_bd (PS.St.good HP0.out) Ezc3.out
  clear HP0
  have hp_ := HP.out.put_status ⟨ls, hs⟩
  have n0_ := Aside0.mk hp_
  clear HP hp_
  have HP := n0_
  clear n0_
  go_upto_region 11 with (first | (go_at_call 39; have u_ := Ec4; clear u_; obtain ⟨l4, h4⟩ := Cu.wordV_bd (PS.St.good HP.out); (with_reducible refine (PS.St.word HP.out).mono ?_); rintro en x5 ⟨rfl, hp_⟩; obtain ⟨c5, ec_⟩ : ∃ z, z = c4.wordS := ⟨_, rfl⟩; rw [← ec_] at hp_; have Ec5 := Aside0.mk ec_; clear ec_; obtain ⟨kevents, fevents⟩ := PS.St.at_events hp_; obtain ⟨kmessages, fmessages⟩ := PS.St.at_messages hp_; have n0_ := Aside0.mk hp_; clear HP hp_; have HP := n0_; clear n0_) | (go_at_call 39; obtain ⟨l3, h3⟩ := Cu.wordV_bd (PS.St.good HP.out); (with_reducible refine (PS.St.word HP.out).mono ?_); rintro en x4 ⟨rfl, hp_⟩; obtain ⟨c4, ec_⟩ : ∃ z, z = c3.wordS := ⟨_, rfl⟩; rw [← ec_] at hp_; have Ec4 := Aside0.mk ec_; clear ec_; have n0_ := Aside0.mk hp_; clear HP hp_; have HP := n0_; clear n0_))
  have hp_ := (HP.out.put_events ⟨l3, h3⟩).put_messages ⟨l4, h4⟩
  have n0_ := Aside0.mk hp_
  clear HP hp_
  have HP := n0_
  clear n0_
  have HBY := Aside0.mk (Cu.bytes_bytesV (PS.St.good HP.out) (c0.byteV - 6))
  go_wp2_with (first | (go_at_call 47; (with_reducible refine (PS.St.bytes HP.out (c0.byteV - 6)).mono ?_); rintro en x6 ⟨A5, n5, rfl, hz_, hr_, hp_⟩; obtain ⟨c6, ec_⟩ : ∃ z, z = c5.bytesS (c0.byteV - 6) := ⟨_, rfl⟩; rw [← ec_] at hp_; have Ec6 := Aside0.mk ec_; clear ec_; have R5 := Aside0.mk hr_; have R5z := Aside0.mk hz_; clear hr_ hz_; have n0_ := Aside0.mk hp_; clear HP hp_; have HP := n0_; clear n0_; obtain ⟨Ad, nd, kd, fd⟩ := PS.St.at_data HP.out))
  have hp_ := HP.out.put_data R5z.out HBY.out R5.out
  have n0_ := Aside0.mk hp_
  clear HP hp_
  have HP := n0_
  clear n0_
  have eq_ : ansR m c0 = (c6, { m with status := s3, events := c3.wordV, messages := c4.wordV, data := c5.bytesV (c0.byteV - 6) }) := by
    unfold ansR
    rw [if_neg (by have := HK.out; omega)]
    rw [if_neg (by have := HK.out; omega)]
    rw [if_pos HK.out]
    simp only [ansR, eventsR, logsR, nameR, Rd.bind, Rd.byte, Rd.word, Rd.bytes, Rd.words, Rd.need, Rd.ret, leftR, ← Ec1.out, ← Ec2.out, ← Ezc3.out, ← Ec4.out, ← Ec5.out, ← Ec6.out]
  rw [eq_]
  exact bodyPost_end (results_none rfl _ _ _) rfl (⟨rfl, HP.out⟩)
theorem answer_17 {w0 w : World} {gr g gm : Nat} {c0 : Cu} {m : Msg} (h : PS.St w0 gr g gm w c0 m) (hk : m.code = 17) :
    Calls Try.prog 22 #[.pointer (some ⟨g, 0, none⟩), .pointer (some ⟨gm, 0, none⟩)] w fun en w' => en = .returned (.tuple #[]) ∧ PS.St w0 gr g gm w' (ansR m c0).1 (ansR m c0).2 := by
  have HP := Aside0.mk h
  have HK := Aside0.mk hk
  clear h
  have b7 : (m.code == 7) = false := beq_eq_false_iff_ne.2 (by omega)
  have b11 : (m.code == 11) = false := beq_eq_false_iff_ne.2 (by omega)
  have b12 : (m.code == 12) = false := beq_eq_false_iff_ne.2 (by omega)
  have b17 : (m.code == 17) = true := beq_iff_eq.2 hk
  clear hk
  obtain ⟨kcode, fcode⟩ := PS.St.at_code HP.out
  go_enter Try.func22, Try.ntmps22
  go_upto_region 13 with (fail)
  go_upto_region 14 with (first | (go_at_call 45; obtain ⟨l0, h0⟩ := Cu.byteV_bd (PS.St.good HP.out); (with_reducible refine (PS.St.byte HP.out).mono ?_); rintro en x1 ⟨rfl, hp_⟩; obtain ⟨c1, ec_⟩ : ∃ z, z = c0.byteS := ⟨_, rfl⟩; rw [← ec_] at hp_; have Ec1 := Aside0.mk ec_; clear ec_; have n0_ := Aside0.mk hp_; clear HP hp_; have HP := n0_; clear n0_))
  have wk := wrap64_id (x := c0.byteV) (by omega) (by omega)
  have wkb : IntKind.i64.wrap (c0.byteV) = c0.byteV := by rw [i64_w]; exact wk
  obtain ⟨c2, e_⟩ : ∃ z, z = c1.need (decide (1 ≤ c0.byteV) && decide (c0.byteV ≤ 251)) 5 := ⟨_, rfl⟩
  have Ec2 := Aside0.mk e_
  clear e_
  go_cut [] from 70 to 78 (fun wx => Aside0 (PS.St w0 gr g gm wx c2 (m)))
  case first =>
    cases hs0_ : (decide (1 ≤ c0.byteV)) with
    | true =>
      have hs0a_ : (decide (c0.byteV ≥ 1)) = true := by first | exact hs0_ | (rw [bne, hs0_]; rfl) | (have := hs0_; rw [bne] at this; simpa using this)
      have eb_ : (decide (1 ≤ c0.byteV) && decide (c0.byteV ≤ 251)) = (decide (c0.byteV ≤ 251)) := by first | (simp only [hs0_]; first | rfl | (simp; done)) | (simp [hs0_]; done) | (simp only [bne, hs0_]; first | rfl | (simp; done))
      have EB_ := Aside0.mk eb_
      clear eb_
      go_wp2_with (first | (go_at_call 40; (with_reducible refine (PS.St.need HP.out (decide (c0.byteV ≤ 251)) 5).mono ?_); rintro en x2 ⟨rfl, hp_⟩; have n0_ := Aside0.mk hp_; clear HP hp_; have HP := n0_; clear n0_))
      go_meet
      rw [Ec2.out, EB_.out]
      exact HP
    | false =>
      have hs0a_ : (decide (c0.byteV ≥ 1)) = false := by first | exact hs0_ | (rw [bne, hs0_]; rfl) | (have := hs0_; rw [bne] at this; simpa using this)
      have eb_ : (decide (1 ≤ c0.byteV) && decide (c0.byteV ≤ 251)) = (false) := by first | (simp only [hs0_]; first | rfl | (simp; done)) | (simp [hs0_]; done) | (simp only [bne, hs0_]; first | rfl | (simp; done))
      have EB_ := Aside0.mk eb_
      clear eb_
      go_wp2_with (first | (go_at_call 40; (with_reducible refine (PS.St.need HP.out (false) 5).mono ?_); rintro en x2 ⟨rfl, hp_⟩; have n0_ := Aside0.mk hp_; clear HP hp_; have HP := n0_; clear n0_))
      go_meet
      rw [Ec2.out, EB_.out]
      exact HP
  case rest =>
  clear HP
  have HP := hcut
  clear hcut
  have HBY := Aside0.mk (Cu.bytes_bytesV (PS.St.good HP.out) c0.byteV)
  go_wp2_with (first | (go_at_call 47; (with_reducible refine (PS.St.bytes HP.out (c0.byteV)).mono ?_); rintro en x3 ⟨A5, n5, rfl, hz_, hr_, hp_⟩; obtain ⟨c3, ec_⟩ : ∃ z, z = c2.bytesS (c0.byteV) := ⟨_, rfl⟩; rw [← ec_] at hp_; have Ec3 := Aside0.mk ec_; clear ec_; have R5 := Aside0.mk hr_; have R5z := Aside0.mk hz_; clear hr_ hz_; have n0_ := Aside0.mk hp_; clear HP hp_; have HP := n0_; clear n0_; obtain ⟨Ad, nd, kd, fd⟩ := PS.St.at_data HP.out))
  have hp_ := HP.out.put_data R5z.out HBY.out R5.out
  have n0_ := Aside0.mk hp_
  clear HP hp_
  have HP := n0_
  clear n0_
  have eq_ : ansR m c0 = (c3, { m with data := c2.bytesV c0.byteV }) := by
    unfold ansR
    rw [if_neg (by have := HK.out; omega)]
    rw [if_neg (by have := HK.out; omega)]
    rw [if_neg (by have := HK.out; omega)]
    rw [if_pos HK.out]
    simp only [ansR, eventsR, logsR, nameR, Rd.bind, Rd.byte, Rd.word, Rd.bytes, Rd.words, Rd.need, Rd.ret, leftR, ← Ec1.out, ← Ec2.out, ← Ec3.out]
  rw [eq_]
  exact bodyPost_end (results_none rfl _ _ _) rfl (⟨rfl, HP.out⟩)
theorem need_k {w0 w : World} {gr g gm : Nat} {c0 : Cu} {m : Msg} (h : PS.St w0 gr g gm w c0 m) (ok : Bool) (f : Int) : Calls Try.prog 40 #[.pointer (some ⟨g, 0, none⟩), .bool ok, .int .i64 f] w fun en w' => en = .returned (.tuple #[]) ∧ PS.St w0 gr g gm w' (c0.need ok f) m ∧ Kept w w' (fun k => k = g) := by
  obtain ⟨lo, hi, hc, s1, s2⟩ := h.cur
  refine (p_need hc ok f).mono ?_
  rintro en w' ⟨rfl, b1, b2⟩
  exact ⟨rfl, h.upd b2 ⟨lo, hi, b1, s1, s2⟩, b2.kept⟩
def line.T4 : Bool × List (List Nat × List Nat) := (true, [([], []), ([], []), ([1], [1]), ([2], [2]), ([3], [3]), ([4], [4]), ([5], [5]), ([6], [6]), ([7], [7]), ([7], [7]), ([9, 7], [7, 9]), ([10, 7], [7, 10]), ([11, 7], [7, 11]), ([7], [7]), ([13, 7], [7, 13]), ([14, 7], [7, 14]), ([15, 7], [7, 15]), ([16, 7], [7, 16]), ([17, 7], [7, 17]), ([8, 12, 18, 7, 7], [7, 8, 12, 18]), ([7, 19], [7, 19]), ([0, 20, 19], [0, 20])])
def line.B4 : List Nat := [0, 0, 2, 6, 14, 30, 62, 126, 254, 254, 766, 1790, 3838, 254, 8446, 24830, 57598, 123134, 254206, 524286, 1048574, 2097151]
theorem line.tab4 : rtab .any (opsOf Try.f21 4) = line.T4 := by kernel_rfl
theorem line.bits4 : waitsOk line.T4.2 line.B4 = true := by kernel_rfl
theorem line_0_e {w0 w : World} {gr g gm : Nat} {c0 : Cu} {m : Msg} (h : PS.St w0 gr g gm w c0 m) (hz : c0.wordV = 0) :
    Calls Try.prog 21 #[.int .i64 0, .pointer (some ⟨g, 0, none⟩), .pointer (some ⟨gm, 0, none⟩)] w fun en w' => en = .returned (.tuple #[]) ∧ PS.St w0 gr g gm w' (lineR 0 m c0).1 (lineR 0 m c0).2 := by
  have HP := Aside0.mk h
  have HZ := Aside0.mk hz
  clear h hz
  go_enter Try.func21, Try.ntmps21
  go_upto_region 1 with (first | (go_at_call 39; obtain ⟨l0, h0⟩ := Cu.wordV_bd (PS.St.good HP.out); (with_reducible refine (PS.St.word HP.out).mono ?_); rintro en x1 ⟨rfl, hp_⟩; obtain ⟨c1, ec_⟩ : ∃ z, z = c0.wordS := ⟨_, rfl⟩; rw [← ec_] at hp_; have Ec1 := Aside0.mk ec_; clear ec_; obtain ⟨ksub, fsub⟩ := PS.St.at_sub hp_; have n0_ := Aside0.mk hp_; clear HP hp_; have HP := n0_; clear n0_))
  have hp_ := HP.out.put_sub ⟨l0, h0⟩
  have n0_ := Aside0.mk hp_
  clear HP hp_
  have HP := n0_
  clear n0_
  have HWF := Aside0.mk (show (Lit.int .u16 c0.wordV).wf = true from by simp [Lit.wf, IntKind.min, IntKind.max, IntKind.signed, IntKind.bits]; omega)
  obtain ⟨c2, e_⟩ : ∃ z, z = c1.need (subB c0.wordV && ((0 : Int) == 0 || c0.wordV != 4)) 8 := ⟨_, rfl⟩
  have Ec2 := Aside0.mk e_
  clear e_
  obtain ⟨ksub, fsub⟩ := PS.St.at_sub HP.out
  go_cut [] from 12 to 30 (fun wx => Aside0 (PS.St w0 gr g gm wx c2 ({ m with sub := c0.wordV })))
  case first =>
    cases hs0_ : (subB c0.wordV) with
    | true =>
      have eb_ : (subB c0.wordV && ((0 : Int) == 0 || c0.wordV != 4)) = (true) := by first | (simp only [hs0_]; first | rfl | (simp; done)) | (simp [hs0_]; done) | (simp only [bne, hs0_]; first | rfl | (simp; done))
      have EB_ := Aside0.mk eb_
      clear eb_
      go_wp2_with (first | (go_at_call 41; (with_reducible refine (sub_c HWF.out _).mono ?_); rintro en xb ⟨rfl, hb_⟩; have n0_ := Aside0.mk (PS.St.below HP.out hb_); clear HP hb_; have HP := n0_; clear n0_; obtain ⟨ksub, fsub⟩ := PS.St.at_sub HP.out) | (go_at_call 40; (with_reducible refine (PS.St.need HP.out (true) 8).mono ?_); rintro en x2 ⟨rfl, hp_⟩; have n0_ := Aside0.mk hp_; clear HP hp_; have HP := n0_; clear n0_))
      go_meet
      rw [Ec2.out, EB_.out]
      exact HP
    | false =>
      have eb_ : (subB c0.wordV && ((0 : Int) == 0 || c0.wordV != 4)) = (false) := by first | (simp only [hs0_]; first | rfl | (simp; done)) | (simp [hs0_]; done) | (simp only [bne, hs0_]; first | rfl | (simp; done))
      have EB_ := Aside0.mk eb_
      clear eb_
      go_wp2_with (first | (go_at_call 41; (with_reducible refine (sub_c HWF.out _).mono ?_); rintro en xb ⟨rfl, hb_⟩; have n0_ := Aside0.mk (PS.St.below HP.out hb_); clear HP hb_; have HP := n0_; clear n0_; obtain ⟨ksub, fsub⟩ := PS.St.at_sub HP.out) | (go_at_call 40; (with_reducible refine (PS.St.need HP.out (false) 8).mono ?_); rintro en x2 ⟨rfl, hp_⟩; have n0_ := Aside0.mk hp_; clear HP hp_; have HP := n0_; clear n0_))
      go_meet
      rw [Ec2.out, EB_.out]
      exact HP
  case rest =>
  clear HP
  have HP := hcut
  clear hcut
  have hz_ : (c0.wordV != 0) = false := by rw [HZ.out]; rfl
  obtain ⟨ksub, fsub⟩ := PS.St.at_sub HP.out
  go_upto_region 6 with (first | (go_at_call 44; (with_reducible refine (PS.St.left HP.out).mono ?_); rintro en x3 ⟨rfl, hp_⟩; have n0_ := Aside0.mk hp_; clear HP hp_; have HP := n0_; clear n0_))
  clear hz_ ksub fsub
  have wd : Int.tdiv (c2.xs.length : Int) 2 = (c2.xs.length : Int) / 2 := Int.tdiv_eq_ediv_of_nonneg (by omega)
  have wq := wrap64_id (x := (c2.xs.length : Int) / 2) (by omega) (by have := (PS.St.good HP.out).2.1; omega)
  obtain ⟨c3, e_⟩ : ∃ z, z = c2.need ((c2.xs.length : Int) % 2 == 0 && (decide (2 ≤ (c2.xs.length : Int)) && decide ((c2.xs.length : Int) ≤ 250))) 5 := ⟨_, rfl⟩
  have Ec3 := Aside0.mk e_
  clear e_
  go_cut [] from 64 to 77 (fun wx => Aside0 (PS.St w0 gr g gm wx c3 ({ m with sub := c0.wordV })))
  case first =>
    cases hs0_ : ((c2.xs.length : Int) % 2 == 0) with
    | true =>
      have hs0a_ : ((c2.xs.length : Int) % 2 != 0) = false := by first | exact hs0_ | (rw [bne, hs0_]; rfl) | (have := hs0_; rw [bne] at this; simpa using this)
      have hs0t_ : (Int.tmod (c2.xs.length : Int) 2 == 0) = true := by rw [Int.tmod_eq_emod_of_nonneg (by omega)]; exact hs0_
      cases hs1_ : (decide (2 ≤ (c2.xs.length : Int))) with
      | true =>
        have hs1a_ : (decide ((c2.xs.length : Int) ≥ 2)) = true := by first | exact hs1_ | (rw [bne, hs1_]; rfl) | (have := hs1_; rw [bne] at this; simpa using this)
        have eb_ : ((c2.xs.length : Int) % 2 == 0 && (decide (2 ≤ (c2.xs.length : Int)) && decide ((c2.xs.length : Int) ≤ 250))) = (decide ((c2.xs.length : Int) ≤ 250)) := by first | (simp only [hs0_, hs1_]; first | rfl | (simp; done)) | (simp [hs0_, hs1_]; done) | (simp only [bne, hs0_, hs1_]; first | rfl | (simp; done))
        have EB_ := Aside0.mk eb_
        clear eb_
        go_wp2_with (first | (go_at_call 40; (with_reducible refine (PS.St.need HP.out (decide ((c2.xs.length : Int) ≤ 250)) 5).mono ?_); rintro en x4 ⟨rfl, hp_⟩; have n0_ := Aside0.mk hp_; clear HP hp_; have HP := n0_; clear n0_))
        go_meet
        rw [Ec3.out, EB_.out]
        exact HP
      | false =>
        have hs1a_ : (decide ((c2.xs.length : Int) ≥ 2)) = false := by first | exact hs1_ | (rw [bne, hs1_]; rfl) | (have := hs1_; rw [bne] at this; simpa using this)
        have eb_ : ((c2.xs.length : Int) % 2 == 0 && (decide (2 ≤ (c2.xs.length : Int)) && decide ((c2.xs.length : Int) ≤ 250))) = (false) := by first | (simp only [hs0_, hs1_]; first | rfl | (simp; done)) | (simp [hs0_, hs1_]; done) | (simp only [bne, hs0_, hs1_]; first | rfl | (simp; done))
        have EB_ := Aside0.mk eb_
        clear eb_
        go_wp2_with (first | (go_at_call 40; (with_reducible refine (PS.St.need HP.out (false) 5).mono ?_); rintro en x4 ⟨rfl, hp_⟩; have n0_ := Aside0.mk hp_; clear HP hp_; have HP := n0_; clear n0_))
        go_meet
        rw [Ec3.out, EB_.out]
        exact HP
    | false =>
      have hs0a_ : ((c2.xs.length : Int) % 2 != 0) = true := by first | exact hs0_ | (rw [bne, hs0_]; rfl) | (have := hs0_; rw [bne] at this; simpa using this)
      have hs0t_ : (Int.tmod (c2.xs.length : Int) 2 == 0) = false := by rw [Int.tmod_eq_emod_of_nonneg (by omega)]; exact hs0_
      have eb_ : ((c2.xs.length : Int) % 2 == 0 && (decide (2 ≤ (c2.xs.length : Int)) && decide ((c2.xs.length : Int) ≤ 250))) = (false) := by first | (simp only [hs0_]; first | rfl | (simp; done)) | (simp [hs0_]; done) | (simp only [bne, hs0_]; first | rfl | (simp; done))
      have EB_ := Aside0.mk eb_
      clear eb_
      go_wp2_with (first | (go_at_call 40; (with_reducible refine (PS.St.need HP.out (false) 5).mono ?_); rintro en x4 ⟨rfl, hp_⟩; have n0_ := Aside0.mk hp_; clear HP hp_; have HP := n0_; clear n0_))
      go_meet
      rw [Ec3.out, EB_.out]
      exact HP
  case rest =>
  clear HP
  have HP := hcut
  clear hcut
  have HBY := Aside0.mk (Cu.wordsV_bd (PS.St.good HP.out) ((c2.xs.length : Int) / 2))
  go_wp2_with (first | (go_at_call 42; (with_reducible refine (PS.St.words HP.out ((c2.xs.length : Int) / 2)).mono ?_); rintro en x5 ⟨A5, n5, rfl, hz_, hr_, hp_⟩; obtain ⟨c4, ec_⟩ : ∃ z, z = c3.wordsS ((c2.xs.length : Int) / 2) := ⟨_, rfl⟩; rw [← ec_] at hp_; have Ec4 := Aside0.mk ec_; clear ec_; have R5 := Aside0.mk hr_; have R5z := Aside0.mk hz_; clear hr_ hz_; have n0_ := Aside0.mk hp_; clear HP hp_; have HP := n0_; clear n0_; obtain ⟨Aw, nw, kw, fw⟩ := PS.St.at_words HP.out))
  have hp_ := HP.out.put_words R5z.out HBY.out R5.out
  have n0_ := Aside0.mk hp_
  clear HP hp_
  have HP := n0_
  clear n0_
  have eq_ : lineR 0 m c0 = (c4, { m with sub := c0.wordV, words := c3.wordsV ((c2.xs.length : Int) / 2) }) := by
    have e1 : lineR 0 m c0 = echoR { m with sub := c0.wordV } c2 := by
      rw [Ec2.out, Ec1.out]
      show (if c0.wordV = 0 then (_ : Cu → Cu × Msg) else _) _ = _
      rw [if_pos HZ.out]
      rfl
    rw [e1, Ec4.out, Ec3.out]
    rfl
  rw [eq_]
  exact bodyPost_end (results_none rfl _ _ _) rfl (⟨rfl, HP.out⟩)
theorem line_0_1 {w0 w : World} {gr g gm : Nat} {c0 : Cu} {m : Msg} (h : PS.St w0 gr g gm w c0 m) (hz : c0.wordV ≠ 0) (ho : ((c0.wordS.need (subB c0.wordV && ((0 : Int) == 0 || c0.wordV != 4)) 8).wordsV 1).length = 1) :
    Calls Try.prog 21 #[.int .i64 0, .pointer (some ⟨g, 0, none⟩), .pointer (some ⟨gm, 0, none⟩)] w fun en w' => en = .returned (.tuple #[]) ∧ PS.St w0 gr g gm w' (lineR 0 m c0).1 (lineR 0 m c0).2 := by
  have HP := Aside0.mk h
  have HZ := Aside0.mk hz
  clear h hz
  have HO := Aside0.mk ho
  clear ho
  go_enter Try.func21, Try.ntmps21
  go_upto_region 1 with (first | (go_at_call 39; obtain ⟨l0, h0⟩ := Cu.wordV_bd (PS.St.good HP.out); (with_reducible refine (PS.St.word HP.out).mono ?_); rintro en x1 ⟨rfl, hp_⟩; obtain ⟨c1, ec_⟩ : ∃ z, z = c0.wordS := ⟨_, rfl⟩; rw [← ec_] at hp_; have Ec1 := Aside0.mk ec_; clear ec_; obtain ⟨ksub, fsub⟩ := PS.St.at_sub hp_; have n0_ := Aside0.mk hp_; clear HP hp_; have HP := n0_; clear n0_))
  have hp_ := HP.out.put_sub ⟨l0, h0⟩
  have n0_ := Aside0.mk hp_
  clear HP hp_
  have HP := n0_
  clear n0_
  have HWF := Aside0.mk (show (Lit.int .u16 c0.wordV).wf = true from by simp [Lit.wf, IntKind.min, IntKind.max, IntKind.signed, IntKind.bits]; omega)
  obtain ⟨c2, e_⟩ : ∃ z, z = c1.need (subB c0.wordV && ((0 : Int) == 0 || c0.wordV != 4)) 8 := ⟨_, rfl⟩
  have Ec2 := Aside0.mk e_
  clear e_
  obtain ⟨ksub, fsub⟩ := PS.St.at_sub HP.out
  go_cut [] from 12 to 30 (fun wx => Aside0 (PS.St w0 gr g gm wx c2 ({ m with sub := c0.wordV })))
  case first =>
    cases hs0_ : (subB c0.wordV) with
    | true =>
      have eb_ : (subB c0.wordV && ((0 : Int) == 0 || c0.wordV != 4)) = (true) := by first | (simp only [hs0_]; first | rfl | (simp; done)) | (simp [hs0_]; done) | (simp only [bne, hs0_]; first | rfl | (simp; done))
      have EB_ := Aside0.mk eb_
      clear eb_
      go_wp2_with (first | (go_at_call 41; (with_reducible refine (sub_c HWF.out _).mono ?_); rintro en xb ⟨rfl, hb_⟩; have n0_ := Aside0.mk (PS.St.below HP.out hb_); clear HP hb_; have HP := n0_; clear n0_; obtain ⟨ksub, fsub⟩ := PS.St.at_sub HP.out) | (go_at_call 40; (with_reducible refine (PS.St.need HP.out (true) 8).mono ?_); rintro en x2 ⟨rfl, hp_⟩; have n0_ := Aside0.mk hp_; clear HP hp_; have HP := n0_; clear n0_))
      go_meet
      rw [Ec2.out, EB_.out]
      exact HP
    | false =>
      have eb_ : (subB c0.wordV && ((0 : Int) == 0 || c0.wordV != 4)) = (false) := by first | (simp only [hs0_]; first | rfl | (simp; done)) | (simp [hs0_]; done) | (simp only [bne, hs0_]; first | rfl | (simp; done))
      have EB_ := Aside0.mk eb_
      clear eb_
      go_wp2_with (first | (go_at_call 41; (with_reducible refine (sub_c HWF.out _).mono ?_); rintro en xb ⟨rfl, hb_⟩; have n0_ := Aside0.mk (PS.St.below HP.out hb_); clear HP hb_; have HP := n0_; clear n0_; obtain ⟨ksub, fsub⟩ := PS.St.at_sub HP.out) | (go_at_call 40; (with_reducible refine (PS.St.need HP.out (false) 8).mono ?_); rintro en x2 ⟨rfl, hp_⟩; have n0_ := Aside0.mk hp_; clear HP hp_; have HP := n0_; clear n0_))
      go_meet
      rw [Ec2.out, EB_.out]
      exact HP
  case rest =>
  clear HP
  have HP := hcut
  clear hcut
  have hz_ : (c0.wordV != 0) = true := by simpa using HZ.out
  obtain ⟨ksub, fsub⟩ := PS.St.at_sub HP.out
  have HBY := Aside0.mk (Cu.wordsV_bd (PS.St.good HP.out) 1)
  go_upto_region 4 with (first | (go_at_call 42; (with_reducible refine (PS.St.words HP.out (1)).mono ?_); rintro en x3 ⟨A5, n5, rfl, hz_, hr_, hp_⟩; obtain ⟨c3, ec_⟩ : ∃ z, z = c2.wordsS (1) := ⟨_, rfl⟩; rw [← ec_] at hp_; have Ec3 := Aside0.mk ec_; clear ec_; have R5 := Aside0.mk hr_; have R5z := Aside0.mk hz_; clear hr_ hz_; have n0_ := Aside0.mk hp_; clear HP hp_; have HP := n0_; clear n0_; obtain ⟨Aw, nw, kw, fw⟩ := PS.St.at_words HP.out))
  clear hz_
  have HE := Aside0.mk (show c0.wordS.need (subB c0.wordV && ((0 : Int) == 0 || c0.wordV != 4)) 8 = c2 by rw [Ec2.out, Ec1.out])
  obtain ⟨v, hv⟩ : ∃ v, c2.wordsV 1 = [v] := by have := HO.out; rw [HE.out] at this; exact List.length_eq_one_iff.1 this
  have hvb := HBY.out v (by rw [hv]; simp)
  rw [hv] at R5 R5z HBY ⊢
  have HV := Aside0.mk hv
  clear hv
  obtain ⟨ad, rfl, hx⟩ := Kd.at_int (R5.out _ (Kept.refl _ _)) (0 : Int) (by simp) (by simp)
  have KW := Aside0.mk (show (World.setCell x3 ⟨gm, 12, none⟩ (.slice (some ad) 1 n5)).cell? ⟨gm, 12, none⟩ = some (.slice (some ad) 1 n5) from World.cell?_setCell_same _ _ _ (by rw [kw]))
  have HK := Aside0.mk (show Kept x3 (World.setCell x3 ⟨gm, 12, none⟩ (.slice (some ad) 1 n5)) (fun k => k = g ∨ k = gm ∨ k = gr ∨ k < w0.heap.size) from (Kept.refl _ _).setCell (p := ⟨gm, 12, none⟩) (.inl (.inr (.inl rfl))) _)
  have HX := Aside0.mk (show ∀ W', Kept x3 W' (fun k => k = g ∨ k = gm ∨ k = gr ∨ k < w0.heap.size) → W'.cell? ad = some (.int .u16 v) from fun W' hk => by
    obtain ⟨ad2, e2, hx2⟩ := Kd.at_int (R5.out W' hk) (0 : Int) (by simp) (by simp)
    injection e2 with e2
    rw [← e2] at hx2
    simpa [Addr.add, rd] using hx2)
  have hp_ := HP.out.put_words R5z.out HBY.out R5.out
  have n0_ := Aside0.mk hp_
  clear HP hp_
  have HP := n0_
  clear n0_
  clear hx
  have n0_ := Aside0.mk (((below_drew (Below.refl _ _)).cell (World.block_lt_of_cell? _ _ KW.out)).trans KW.out)
  clear KW
  have KW := n0_
  clear n0_
  have n0_ := Aside0.mk (HK.out.below (below_drew (Below.refl _ _)))
  clear HK
  have HK := n0_
  clear n0_
  have n0_ := Aside0.mk (PS.St.below HP.out (below_drew (Below.refl _ _)))
  clear HP
  have HP := n0_
  clear n0_
  have EB := Aside0.mk (show ((c2.wordsV 1).length == 1 && mayB 0 c0.wordV ((c2.wordsV 1).headD 0)) = (mayB 0 c0.wordV v) from by rw [HV.out]; rfl)
  refine start_ (n := 22) (S := fun w' => w'.cell? ⟨gm, 12, none⟩ = some (.slice (some ad) 1 n5) ∧ w'.cell? ⟨gm, 8, none⟩ = some (.int .u16 c0.wordV) ∧ w'.cell? ad = some (.int .u16 v)) (ds := []) (bm 22 0) (by as_aux_lemma => kernel_rfl) rfl (by as_aux_lemma => kernel_rfl) ⟨KW.out, (PS.St.at_sub HP.out).1, (HX.out _ HK.out)⟩ (fun hHeld => ?_)
  refine with_tabW line.tab4 line.bits4 (fun HT_ HW_ => ?_)
  refine pure_ (i := 0) (N := some 40) (v := ?_) (a' := ?_) (bm 22 1) rfl rfl (any_of HT_.out (by as_aux_lemma => kernel_rfl)) (fun _ _ _ h => h) (Or.inl ⟨by rfl, ?_⟩) ?_ ?_
  rotate_left
  · intro w'
    go_simp
    with_reducible rfl
  rotate_left
  · simp only [Act.put, List.setIfInBounds_toArray, List.set_cons_zero, List.set_cons_succ, i64_w, i32_w]
    rfl
  refine pure_ (i := 1) (N := some 41) (v := ?_) (a' := ?_) (bm 22 3) rfl rfl (any_of HT_.out (by as_aux_lemma => kernel_rfl)) (fun _ _ _ h => h) (Or.inl ⟨by rfl, ?_⟩) ?_ ?_
  rotate_left
  · intro w'
    go_simp
    with_reducible rfl
  rotate_left
  · simp only [Act.put, List.setIfInBounds_toArray, List.set_cons_zero, List.set_cons_succ, i64_w, i32_w]
    rfl
  refine pure_ (i := 2) (N := some 42) (v := ?_) (a' := ?_) (bm 22 7) rfl rfl (any_of HT_.out (by as_aux_lemma => kernel_rfl)) (fun _ _ _ h => h) (Or.inl ⟨by rfl, ?_⟩) ?_ ?_
  rotate_left
  · intro w'
    go_simp
    with_reducible rfl
  rotate_left
  · simp only [Act.put, List.setIfInBounds_toArray, List.set_cons_zero, List.set_cons_succ, i64_w, i32_w]
    rfl
  refine pure_ (i := 3) (N := some 43) (v := ?_) (a' := ?_) (bm 22 15) rfl rfl (any_of HT_.out (by as_aux_lemma => kernel_rfl)) (fun _ _ _ h => h) (Or.inl ⟨by rfl, ?_⟩) ?_ ?_
  rotate_left
  · intro w'
    go_simp
    with_reducible rfl
  rotate_left
  · simp only [Act.put, List.setIfInBounds_toArray, List.set_cons_zero, List.set_cons_succ, i64_w, i32_w]
    rfl
  refine take_ (i := 4) (N := some 44) (v := ?_) (a' := ?_) (bm 22 31) rfl rfl (take_ofW HT_.out HW_.out (by as_aux_lemma => kernel_rfl)) (fun _ _ _ h => h) (Or.inl ⟨by rfl, ?_⟩) hHeld ?_ ?_
  rotate_left
  · rintro w' ⟨s0, s1, s2⟩
    go_simp
    with_reducible rfl
  rotate_left
  · simp only [Act.put, List.setIfInBounds_toArray, List.set_cons_zero, List.set_cons_succ, i64_w, i32_w]
    rfl
  refine pure_ (i := 5) (N := some 45) (v := ?_) (a' := ?_) (bm 22 63) rfl rfl (any_of HT_.out (by as_aux_lemma => kernel_rfl)) (fun _ _ _ h => h) (Or.inl ⟨by rfl, ?_⟩) ?_ ?_
  rotate_left
  · intro w'
    go_simp
    with_reducible rfl
  rotate_left
  · simp only [Act.put, List.setIfInBounds_toArray, List.set_cons_zero, List.set_cons_succ, i64_w, i32_w]
    rfl
  refine pure_ (i := 6) (N := some 46) (v := ?_) (a' := ?_) (bm 22 127) rfl rfl (any_of HT_.out (by as_aux_lemma => kernel_rfl)) (fun _ _ _ h => h) (Or.inl ⟨by rfl, ?_⟩) ?_ ?_
  rotate_left
  · intro w'
    go_simp
    with_reducible rfl
  rotate_left
  · simp only [Act.put, List.setIfInBounds_toArray, List.set_cons_zero, List.set_cons_succ, i64_w, i32_w]
    rfl
  refine pure_ (i := 7) (N := some 47) (v := ?_) (a' := ?_) (bm 22 255) rfl rfl (any_of HT_.out (by as_aux_lemma => kernel_rfl)) (fun _ _ _ h => h) (Or.inl ⟨by rfl, ?_⟩) ?_ ?_
  rotate_left
  · intro w'
    go_simp
    with_reducible rfl
  rotate_left
  · simp only [Act.put, List.setIfInBounds_toArray, List.set_cons_zero, List.set_cons_succ, i64_w, i32_w]
    rfl
  refine pure_ (i := 8) (N := some 48) (v := ?_) (a' := ?_) (bm 22 511) rfl rfl (any_of HT_.out (by as_aux_lemma => kernel_rfl)) (fun _ _ _ h => h) (Or.inl ⟨by rfl, ?_⟩) ?_ ?_
  rotate_left
  · intro w'
    go_simp
    with_reducible rfl
  rotate_left
  · simp only [Act.put, List.setIfInBounds_toArray, List.set_cons_zero, List.set_cons_succ, i64_w, i32_w]
    rfl
  refine pure_ (i := 9) (N := some 49) (v := ?_) (a' := ?_) (bm 22 1023) rfl rfl (any_of HT_.out (by as_aux_lemma => kernel_rfl)) (fun _ _ _ h => h) (Or.inl ⟨by rfl, ?_⟩) ?_ ?_
  rotate_left
  · intro w'
    go_simp
    with_reducible rfl
  rotate_left
  · simp only [Act.put, List.setIfInBounds_toArray, List.set_cons_zero, List.set_cons_succ, i64_w, i32_w]
    rfl
  refine pure_ (i := 10) (N := some 50) (v := ?_) (a' := ?_) (bm 22 2047) rfl rfl (any_of HT_.out (by as_aux_lemma => kernel_rfl)) (fun _ _ _ h => h) (Or.inl ⟨by rfl, ?_⟩) ?_ ?_
  rotate_left
  · intro w'
    go_simp
    with_reducible rfl
  rotate_left
  · simp only [Act.put, List.setIfInBounds_toArray, List.set_cons_zero, List.set_cons_succ, i64_w, i32_w]
    rfl
  refine pure_ (i := 11) (N := some 51) (v := ?_) (a' := ?_) (bm 22 4095) rfl rfl (any_of HT_.out (by as_aux_lemma => kernel_rfl)) (fun _ _ _ h => h) (Or.inl ⟨by rfl, ?_⟩) ?_ ?_
  rotate_left
  · intro w'
    go_simp
    with_reducible rfl
  rotate_left
  · simp only [Act.put, List.setIfInBounds_toArray, List.set_cons_zero, List.set_cons_succ, i64_w, i32_w]
    rfl
  refine pure_ (i := 13) (N := some 53) (v := ?_) (a' := ?_) (bm 22 12287) rfl rfl (any_of HT_.out (by as_aux_lemma => kernel_rfl)) (fun _ _ _ h => h) (Or.inl ⟨by rfl, ?_⟩) ?_ ?_
  rotate_left
  · intro w'
    go_simp
    with_reducible rfl
  rotate_left
  · simp only [Act.put, List.setIfInBounds_toArray, List.set_cons_zero, List.set_cons_succ, i64_w, i32_w]
    rfl
  refine pure_ (i := 14) (N := some 54) (v := ?_) (a' := ?_) (bm 22 28671) rfl rfl (any_of HT_.out (by as_aux_lemma => kernel_rfl)) (fun _ _ _ h => h) (Or.inl ⟨by rfl, ?_⟩) ?_ ?_
  rotate_left
  · intro w'
    go_simp
    with_reducible rfl
  rotate_left
  · simp only [Act.put, List.setIfInBounds_toArray, List.set_cons_zero, List.set_cons_succ, i64_w, i32_w]
    rfl
  refine pure_ (i := 15) (N := some 55) (v := ?_) (a' := ?_) (bm 22 61439) rfl rfl (any_of HT_.out (by as_aux_lemma => kernel_rfl)) (fun _ _ _ h => h) (Or.inl ⟨by rfl, ?_⟩) ?_ ?_
  rotate_left
  · intro w'
    go_simp
    with_reducible rfl
  rotate_left
  · simp only [Act.put, List.setIfInBounds_toArray, List.set_cons_zero, List.set_cons_succ, i64_w, i32_w]
    rfl
  refine take_ (i := 12) (N := some 52) (v := ?_) (a' := ?_) (bm 22 65535) rfl rfl (take_ofW HT_.out HW_.out (by as_aux_lemma => kernel_rfl)) (fun _ _ _ h => h) (Or.inl ⟨by rfl, ?_⟩) hHeld ?_ ?_
  rotate_left
  · rintro w' ⟨s0, s1, s2⟩
    go_simp
    with_reducible rfl
  rotate_left
  · simp only [Act.put, List.setIfInBounds_toArray, List.set_cons_zero, List.set_cons_succ, i64_w, i32_w]
    rfl
  refine take_ (i := 16) (N := some 56) (v := ?_) (a' := ?_) (bm 22 131071) rfl rfl (take_ofW HT_.out HW_.out (by as_aux_lemma => kernel_rfl)) (fun _ _ _ h => h) (Or.inl ⟨by rfl, ?_⟩) hHeld ?_ ?_
  rotate_left
  · rintro w' ⟨s0, s1, s2⟩
    go_simp
    with_reducible rfl
  rotate_left
  · simp only [Act.put, List.setIfInBounds_toArray, List.set_cons_zero, List.set_cons_succ, i64_w, i32_w]
    rfl
  refine pure_ (i := 17) (N := some 57) (v := ?_) (a' := ?_) (bm 22 262143) rfl rfl (any_of HT_.out (by as_aux_lemma => kernel_rfl)) (fun _ _ _ h => h) (Or.inl ⟨by rfl, ?_⟩) ?_ ?_
  rotate_left
  · intro w'
    go_simp
    with_reducible rfl
  rotate_left
  · simp only [Act.put, List.setIfInBounds_toArray, List.set_cons_zero, List.set_cons_succ, i64_w, i32_w]
    rfl
  refine take_ (i := 18) (N := some 58) (v := ?_) (a' := ?_) (bm 22 524287) rfl rfl (take_ofW HT_.out HW_.out (by as_aux_lemma => kernel_rfl)) (fun _ _ _ h => h) (Or.inl ⟨by rfl, ?_⟩) hHeld ?_ ?_
  rotate_left
  · rintro w' ⟨s0, s1, s2⟩
    go_simp
    with_reducible rfl
  rotate_left
  · simp only [Act.put, List.setIfInBounds_toArray, List.set_cons_zero, List.set_cons_succ, i64_w, i32_w]
    rfl
  refine one_ (i := 19) (N := some 59) (bm 22 1048575) rfl rfl (one_of HT_.out (by as_aux_lemma => kernel_rfl)) (by as_aux_lemma => decide) (fun K hK => ?_)
  refine goes_ Try.func43 (by as_aux_lemma => kernel_rfl) rfl #[.int .i64 0, .int .u16 c0.wordV, .int .u16 v] (by rfl) rfl rfl (by simp only [List.map_toArray, List.map_cons, List.map_nil]; rfl) ?_
  with_reducible refine (may_any (.inl rfl) ⟨l0, h0⟩ hvb _).mono ?_
  rintro en x90 ⟨rfl, hb_⟩
  have n0_ := Aside0.mk ((hb_.cell (World.block_lt_of_cell? _ _ KW.out)).trans KW.out)
  clear KW
  have KW := n0_
  clear n0_
  have n0_ := Aside0.mk (HK.out.below hb_)
  clear HK
  have HK := n0_
  clear n0_
  have n0_ := Aside0.mk (PS.St.below HP.out hb_)
  clear HP
  have HP := n0_
  clear n0_
  clear hb_
  refine ⟨_, rfl, ?_⟩
  refine hK.out _ _ ⟨KW.out, (PS.St.at_sub HP.out).1, (HX.out _ HK.out)⟩ (fun hHeld => ?_)
  clear hK K
  refine norm_ (a' := ?_) ?_ ?_
  rotate_left
  · show Act.put _ (some 59) _ = _
    simp only [Act.put, List.setIfInBounds_toArray, List.set_cons_zero, List.set_cons_succ, i64_w, i32_w]
    rfl
  refine pure_ (i := 20) (N := some 60) (v := ?_) (a' := ?_) (bm 22 2097151) rfl rfl (any_of HT_.out (by as_aux_lemma => kernel_rfl)) (fun _ _ _ h => h) (Or.inl ⟨by rfl, ?_⟩) ?_ ?_
  rotate_left
  · intro w'
    go_simp
    with_reducible rfl
  rotate_left
  · simp only [Act.put, List.setIfInBounds_toArray, List.set_cons_zero, List.set_cons_succ, i64_w, i32_w]
    rfl
  refine one_ (i := 21) (N := some 61) (bm 22 4194303) rfl rfl (one_of HT_.out (by as_aux_lemma => kernel_rfl)) (by as_aux_lemma => decide) (fun K hK => ?_)
  refine goes_ Try.func40 (by as_aux_lemma => kernel_rfl) rfl #[.pointer (some ⟨g, 0, none⟩), .bool (mayB 0 c0.wordV v), .int .i64 6] (by rfl) rfl rfl (by simp only [List.map_toArray, List.map_cons, List.map_nil]; rfl) ?_
  with_reducible refine (need_k HP.out (mayB 0 c0.wordV v) 6).mono ?_
  rintro en x4 ⟨rfl, hp_, hk_⟩
  rw [← EB.out] at hp_
  have n0_ := Aside0.mk (cell_kept KW.out hk_ (fun e => hp_.h2.1 e))
  clear KW
  have KW := n0_
  clear n0_
  have n0_ := Aside0.mk (HK.out.then_ hk_ (fun k e => .inl (.inl e)))
  clear HK hk_
  have HK := n0_
  clear n0_
  obtain ⟨c4, ec_⟩ : ∃ z, z = c3.need ((c2.wordsV 1).length == 1 && mayB 0 c0.wordV ((c2.wordsV 1).headD 0)) 6 := ⟨_, rfl⟩
  rw [← ec_] at hp_
  have Ec4 := Aside0.mk ec_
  clear ec_
  have n0_ := Aside0.mk hp_
  clear HP hp_
  have HP := n0_
  clear n0_
  refine ⟨_, rfl, ?_⟩
  refine hK.out _ _ ⟨KW.out, (PS.St.at_sub HP.out).1, (HX.out _ HK.out)⟩ (fun hHeld => ?_)
  clear hK K
  refine norm_ (a' := ?_) ?_ ?_
  rotate_left
  · show Act.put _ (some 61) _ = _
    simp only [Act.put, List.setIfInBounds_toArray, List.set_cons_zero, List.set_cons_succ, i64_w, i32_w]
    rfl
  refine done_ (done_of HT_.out (by as_aux_lemma => kernel_rfl)) ?_
  go_wp2
  have eq_ : lineR 0 m c0 = (c4, { m with sub := c0.wordV, words := [v] }) := by
    simp only [lineR, ansR, eventsR, logsR, nameR, Rd.bind, Rd.byte, Rd.word, Rd.bytes, Rd.words, Rd.need, Rd.ret, leftR, ← Ec1.out, ← Ec2.out]
    rw [if_neg HZ.out]
    simp only [ansR, eventsR, logsR, nameR, Rd.bind, Rd.byte, Rd.word, Rd.bytes, Rd.words, Rd.need, Rd.ret, leftR, ← Ec3.out, ← Ec4.out]
    rw [HV.out]
  rw [eq_]
  exact bodyPost_ret (results_none rfl _ _ _) rfl (⟨rfl, HP.out⟩)
theorem line_0_0 {w0 w : World} {gr g gm : Nat} {c0 : Cu} {m : Msg} (h : PS.St w0 gr g gm w c0 m) (hz : c0.wordV ≠ 0) (ho : ((c0.wordS.need (subB c0.wordV && ((0 : Int) == 0 || c0.wordV != 4)) 8).wordsV 1).length ≠ 1) :
    Calls Try.prog 21 #[.int .i64 0, .pointer (some ⟨g, 0, none⟩), .pointer (some ⟨gm, 0, none⟩)] w fun en w' => en = .returned (.tuple #[]) ∧ PS.St w0 gr g gm w' (lineR 0 m c0).1 (lineR 0 m c0).2 := by
  have HP := Aside0.mk h
  have HZ := Aside0.mk hz
  clear h hz
  have HO := Aside0.mk ho
  clear ho
  go_enter Try.func21, Try.ntmps21
  go_upto_region 1 with (first | (go_at_call 39; obtain ⟨l0, h0⟩ := Cu.wordV_bd (PS.St.good HP.out); (with_reducible refine (PS.St.word HP.out).mono ?_); rintro en x1 ⟨rfl, hp_⟩; obtain ⟨c1, ec_⟩ : ∃ z, z = c0.wordS := ⟨_, rfl⟩; rw [← ec_] at hp_; have Ec1 := Aside0.mk ec_; clear ec_; obtain ⟨ksub, fsub⟩ := PS.St.at_sub hp_; have n0_ := Aside0.mk hp_; clear HP hp_; have HP := n0_; clear n0_))
  have hp_ := HP.out.put_sub ⟨l0, h0⟩
  have n0_ := Aside0.mk hp_
  clear HP hp_
  have HP := n0_
  clear n0_
  have HWF := Aside0.mk (show (Lit.int .u16 c0.wordV).wf = true from by simp [Lit.wf, IntKind.min, IntKind.max, IntKind.signed, IntKind.bits]; omega)
  obtain ⟨c2, e_⟩ : ∃ z, z = c1.need (subB c0.wordV && ((0 : Int) == 0 || c0.wordV != 4)) 8 := ⟨_, rfl⟩
  have Ec2 := Aside0.mk e_
  clear e_
  obtain ⟨ksub, fsub⟩ := PS.St.at_sub HP.out
  go_cut [] from 12 to 30 (fun wx => Aside0 (PS.St w0 gr g gm wx c2 ({ m with sub := c0.wordV })))
  case first =>
    cases hs0_ : (subB c0.wordV) with
    | true =>
      have eb_ : (subB c0.wordV && ((0 : Int) == 0 || c0.wordV != 4)) = (true) := by first | (simp only [hs0_]; first | rfl | (simp; done)) | (simp [hs0_]; done) | (simp only [bne, hs0_]; first | rfl | (simp; done))
      have EB_ := Aside0.mk eb_
      clear eb_
      go_wp2_with (first | (go_at_call 41; (with_reducible refine (sub_c HWF.out _).mono ?_); rintro en xb ⟨rfl, hb_⟩; have n0_ := Aside0.mk (PS.St.below HP.out hb_); clear HP hb_; have HP := n0_; clear n0_; obtain ⟨ksub, fsub⟩ := PS.St.at_sub HP.out) | (go_at_call 40; (with_reducible refine (PS.St.need HP.out (true) 8).mono ?_); rintro en x2 ⟨rfl, hp_⟩; have n0_ := Aside0.mk hp_; clear HP hp_; have HP := n0_; clear n0_))
      go_meet
      rw [Ec2.out, EB_.out]
      exact HP
    | false =>
      have eb_ : (subB c0.wordV && ((0 : Int) == 0 || c0.wordV != 4)) = (false) := by first | (simp only [hs0_]; first | rfl | (simp; done)) | (simp [hs0_]; done) | (simp only [bne, hs0_]; first | rfl | (simp; done))
      have EB_ := Aside0.mk eb_
      clear eb_
      go_wp2_with (first | (go_at_call 41; (with_reducible refine (sub_c HWF.out _).mono ?_); rintro en xb ⟨rfl, hb_⟩; have n0_ := Aside0.mk (PS.St.below HP.out hb_); clear HP hb_; have HP := n0_; clear n0_; obtain ⟨ksub, fsub⟩ := PS.St.at_sub HP.out) | (go_at_call 40; (with_reducible refine (PS.St.need HP.out (false) 8).mono ?_); rintro en x2 ⟨rfl, hp_⟩; have n0_ := Aside0.mk hp_; clear HP hp_; have HP := n0_; clear n0_))
      go_meet
      rw [Ec2.out, EB_.out]
      exact HP
  case rest =>
  clear HP
  have HP := hcut
  clear hcut
  have hz_ : (c0.wordV != 0) = true := by simpa using HZ.out
  obtain ⟨ksub, fsub⟩ := PS.St.at_sub HP.out
  have HBY := Aside0.mk (Cu.wordsV_bd (PS.St.good HP.out) 1)
  go_upto_region 4 with (first | (go_at_call 42; (with_reducible refine (PS.St.words HP.out (1)).mono ?_); rintro en x3 ⟨A5, n5, rfl, hz_, hr_, hp_⟩; obtain ⟨c3, ec_⟩ : ∃ z, z = c2.wordsS (1) := ⟨_, rfl⟩; rw [← ec_] at hp_; have Ec3 := Aside0.mk ec_; clear ec_; have R5 := Aside0.mk hr_; have R5z := Aside0.mk hz_; clear hr_ hz_; have n0_ := Aside0.mk hp_; clear HP hp_; have HP := n0_; clear n0_; obtain ⟨Aw, nw, kw, fw⟩ := PS.St.at_words HP.out))
  clear hz_
  have HE := Aside0.mk (show c0.wordS.need (subB c0.wordV && ((0 : Int) == 0 || c0.wordV != 4)) 8 = c2 by rw [Ec2.out, Ec1.out])
  have KW := Aside0.mk (show (World.setCell x3 ⟨gm, 12, none⟩ (.slice A5 (c2.wordsV 1).length n5)).cell? ⟨gm, 12, none⟩ = some (.slice A5 (c2.wordsV 1).length n5) from World.cell?_setCell_same _ _ _ (by rw [kw]))
  have HK := Aside0.mk (show Kept x3 (World.setCell x3 ⟨gm, 12, none⟩ (.slice A5 (c2.wordsV 1).length n5)) (fun k => k = g ∨ k = gm ∨ k = gr ∨ k < w0.heap.size) from (Kept.refl _ _).setCell (p := ⟨gm, 12, none⟩) (.inl (.inr (.inl rfl))) _)
  have hp_ := HP.out.put_words R5z.out HBY.out R5.out
  have n0_ := Aside0.mk hp_
  clear HP hp_
  have HP := n0_
  clear n0_
  have n0_ := Aside0.mk (((below_drew (Below.refl _ _)).cell (World.block_lt_of_cell? _ _ KW.out)).trans KW.out)
  clear KW
  have KW := n0_
  clear n0_
  have n0_ := Aside0.mk (HK.out.below (below_drew (Below.refl _ _)))
  clear HK
  have HK := n0_
  clear n0_
  have n0_ := Aside0.mk (PS.St.below HP.out (below_drew (Below.refl _ _)))
  clear HP
  have HP := n0_
  clear n0_
  have EB := Aside0.mk (show ((c2.wordsV 1).length == 1 && mayB 0 c0.wordV ((c2.wordsV 1).headD 0)) = (false) from by rw [show ((c2.wordsV 1).length == 1) = false from beq_eq_false_iff_ne.2 (by have := HO.out; rw [HE.out] at this; exact this)]; rfl)
  have hl1 : ((((c2.wordsV 1).length : Nat) : Int) == 1) = false := beq_eq_false_iff_ne.2 (by have := HO.out; rw [HE.out] at this; omega)
  refine start_ (n := 22) (S := fun w' => w'.cell? ⟨gm, 12, none⟩ = some (.slice A5 (c2.wordsV 1).length n5)) (ds := []) (bm 22 0) (by as_aux_lemma => kernel_rfl) rfl (by as_aux_lemma => kernel_rfl) (KW.out) (fun hHeld => ?_)
  refine with_tabW line.tab4 line.bits4 (fun HT_ HW_ => ?_)
  refine pure_ (i := 0) (N := some 40) (v := ?_) (a' := ?_) (bm 22 1) rfl rfl (any_of HT_.out (by as_aux_lemma => kernel_rfl)) (fun _ _ _ h => h) (Or.inl ⟨by rfl, ?_⟩) ?_ ?_
  rotate_left
  · intro w'
    go_simp
    with_reducible rfl
  rotate_left
  · simp only [Act.put, List.setIfInBounds_toArray, List.set_cons_zero, List.set_cons_succ, i64_w, i32_w]
    rfl
  refine pure_ (i := 1) (N := some 41) (v := ?_) (a' := ?_) (bm 22 3) rfl rfl (any_of HT_.out (by as_aux_lemma => kernel_rfl)) (fun _ _ _ h => h) (Or.inl ⟨by rfl, ?_⟩) ?_ ?_
  rotate_left
  · intro w'
    go_simp
    with_reducible rfl
  rotate_left
  · simp only [Act.put, List.setIfInBounds_toArray, List.set_cons_zero, List.set_cons_succ, i64_w, i32_w]
    rfl
  refine pure_ (i := 2) (N := some 42) (v := ?_) (a' := ?_) (bm 22 7) rfl rfl (any_of HT_.out (by as_aux_lemma => kernel_rfl)) (fun _ _ _ h => h) (Or.inl ⟨by rfl, ?_⟩) ?_ ?_
  rotate_left
  · intro w'
    go_simp
    with_reducible rfl
  rotate_left
  · simp only [Act.put, List.setIfInBounds_toArray, List.set_cons_zero, List.set_cons_succ, i64_w, i32_w]
    rfl
  refine pure_ (i := 3) (N := some 43) (v := ?_) (a' := ?_) (bm 22 15) rfl rfl (any_of HT_.out (by as_aux_lemma => kernel_rfl)) (fun _ _ _ h => h) (Or.inl ⟨by rfl, ?_⟩) ?_ ?_
  rotate_left
  · intro w'
    go_simp
    with_reducible rfl
  rotate_left
  · simp only [Act.put, List.setIfInBounds_toArray, List.set_cons_zero, List.set_cons_succ, i64_w, i32_w]
    rfl
  refine take_ (i := 4) (N := some 44) (v := ?_) (a' := ?_) (bm 22 31) rfl rfl (take_ofW HT_.out HW_.out (by as_aux_lemma => kernel_rfl)) (fun _ _ _ h => h) (Or.inl ⟨by rfl, ?_⟩) hHeld ?_ ?_
  rotate_left
  · intro w' s0
    go_simp
    with_reducible rfl
  rotate_left
  · simp only [Act.put, List.setIfInBounds_toArray, List.set_cons_zero, List.set_cons_succ, i64_w, i32_w]
    rfl
  refine pure_ (i := 5) (N := some 45) (v := ?_) (a' := ?_) (bm 22 63) rfl rfl (any_of HT_.out (by as_aux_lemma => kernel_rfl)) (fun _ _ _ h => h) (Or.inl ⟨by rfl, ?_⟩) ?_ ?_
  rotate_left
  · intro w'
    go_simp
    with_reducible rfl
  rotate_left
  · simp only [Act.put, List.setIfInBounds_toArray, List.set_cons_zero, List.set_cons_succ, i64_w, i32_w]
    rfl
  refine pure_ (i := 6) (N := some 46) (v := ?_) (a' := ?_) (bm 22 127) rfl rfl (any_of HT_.out (by as_aux_lemma => kernel_rfl)) (fun _ _ _ h => h) (Or.inl ⟨by rfl, ?_⟩) ?_ ?_
  rotate_left
  · intro w'
    go_simp
    with_reducible rfl
  rotate_left
  · simp only [Act.put, List.setIfInBounds_toArray, List.set_cons_zero, List.set_cons_succ, i64_w, i32_w]
    rfl
  refine pure_ (i := 7) (N := some 47) (v := ?_) (a' := ?_) (bm 22 255) rfl rfl (any_of HT_.out (by as_aux_lemma => kernel_rfl)) (fun _ _ _ h => h) (Or.inl ⟨by rfl, ?_⟩) ?_ ?_
  rotate_left
  · intro w'
    go_simp
    with_reducible rfl
  rotate_left
  · simp only [Act.put, List.setIfInBounds_toArray, List.set_cons_zero, List.set_cons_succ, i64_w, i32_w]
    rfl
  refine pure_ (i := 8) (N := some 48) (v := undef) (a' := ?_) (bm 22 511) rfl rfl (any_of HT_.out (by as_aux_lemma => kernel_rfl)) (fun _ _ _ h => h) (Or.inr ⟨by rfl, rfl⟩) ?_ ?_
  rotate_left
  · simp only [Act.put, List.setIfInBounds_toArray, List.set_cons_zero, List.set_cons_succ, i64_w, i32_w]
    rfl
  refine pure_ (i := 9) (N := some 49) (v := undef) (a' := ?_) (bm 22 1023) rfl rfl (any_of HT_.out (by as_aux_lemma => kernel_rfl)) (fun _ _ _ h => h) (Or.inr ⟨by rfl, rfl⟩) ?_ ?_
  rotate_left
  · simp only [Act.put, List.setIfInBounds_toArray, List.set_cons_zero, List.set_cons_succ, i64_w, i32_w]
    rfl
  refine pure_ (i := 10) (N := some 50) (v := undef) (a' := ?_) (bm 22 2047) rfl rfl (any_of HT_.out (by as_aux_lemma => kernel_rfl)) (fun _ _ _ h => h) (Or.inr ⟨by rfl, rfl⟩) ?_ ?_
  rotate_left
  · simp only [Act.put, List.setIfInBounds_toArray, List.set_cons_zero, List.set_cons_succ, i64_w, i32_w]
    rfl
  refine pure_ (i := 11) (N := some 51) (v := undef) (a' := ?_) (bm 22 4095) rfl rfl (any_of HT_.out (by as_aux_lemma => kernel_rfl)) (fun _ _ _ h => h) (Or.inr ⟨by rfl, rfl⟩) ?_ ?_
  rotate_left
  · simp only [Act.put, List.setIfInBounds_toArray, List.set_cons_zero, List.set_cons_succ, i64_w, i32_w]
    rfl
  refine pure_ (i := 12) (N := some 52) (v := undef) (a' := ?_) (bm 22 8191) rfl rfl (any_of HT_.out (by as_aux_lemma => kernel_rfl)) (fun _ _ _ h => h) (Or.inr ⟨by rfl, rfl⟩) ?_ ?_
  rotate_left
  · simp only [Act.put, List.setIfInBounds_toArray, List.set_cons_zero, List.set_cons_succ, i64_w, i32_w]
    rfl
  refine pure_ (i := 13) (N := some 53) (v := undef) (a' := ?_) (bm 22 16383) rfl rfl (any_of HT_.out (by as_aux_lemma => kernel_rfl)) (fun _ _ _ h => h) (Or.inr ⟨by rfl, rfl⟩) ?_ ?_
  rotate_left
  · simp only [Act.put, List.setIfInBounds_toArray, List.set_cons_zero, List.set_cons_succ, i64_w, i32_w]
    rfl
  refine pure_ (i := 14) (N := some 54) (v := undef) (a' := ?_) (bm 22 32767) rfl rfl (any_of HT_.out (by as_aux_lemma => kernel_rfl)) (fun _ _ _ h => h) (Or.inr ⟨by rfl, rfl⟩) ?_ ?_
  rotate_left
  · simp only [Act.put, List.setIfInBounds_toArray, List.set_cons_zero, List.set_cons_succ, i64_w, i32_w]
    rfl
  refine pure_ (i := 15) (N := some 55) (v := undef) (a' := ?_) (bm 22 65535) rfl rfl (any_of HT_.out (by as_aux_lemma => kernel_rfl)) (fun _ _ _ h => h) (Or.inr ⟨by rfl, rfl⟩) ?_ ?_
  rotate_left
  · simp only [Act.put, List.setIfInBounds_toArray, List.set_cons_zero, List.set_cons_succ, i64_w, i32_w]
    rfl
  refine pure_ (i := 16) (N := some 56) (v := undef) (a' := ?_) (bm 22 131071) rfl rfl (any_of HT_.out (by as_aux_lemma => kernel_rfl)) (fun _ _ _ h => h) (Or.inr ⟨by rfl, rfl⟩) ?_ ?_
  rotate_left
  · simp only [Act.put, List.setIfInBounds_toArray, List.set_cons_zero, List.set_cons_succ, i64_w, i32_w]
    rfl
  refine pure_ (i := 17) (N := some 57) (v := undef) (a' := ?_) (bm 22 262143) rfl rfl (any_of HT_.out (by as_aux_lemma => kernel_rfl)) (fun _ _ _ h => h) (Or.inr ⟨by rfl, rfl⟩) ?_ ?_
  rotate_left
  · simp only [Act.put, List.setIfInBounds_toArray, List.set_cons_zero, List.set_cons_succ, i64_w, i32_w]
    rfl
  refine pure_ (i := 18) (N := some 58) (v := undef) (a' := ?_) (bm 22 524287) rfl rfl (any_of HT_.out (by as_aux_lemma => kernel_rfl)) (fun _ _ _ h => h) (Or.inr ⟨by rfl, rfl⟩) ?_ ?_
  rotate_left
  · simp only [Act.put, List.setIfInBounds_toArray, List.set_cons_zero, List.set_cons_succ, i64_w, i32_w]
    rfl
  refine pure_ (i := 19) (N := some 59) (v := undef) (a' := ?_) (bm 22 1048575) rfl rfl (any_of HT_.out (by as_aux_lemma => kernel_rfl)) (fun _ _ _ h => h) (Or.inr ⟨by rfl, rfl⟩) ?_ ?_
  rotate_left
  · simp only [Act.put, List.setIfInBounds_toArray, List.set_cons_zero, List.set_cons_succ, i64_w, i32_w]
    rfl
  refine pure_ (i := 20) (N := some 60) (v := ?_) (a' := ?_) (bm 22 2097151) rfl rfl (any_of HT_.out (by as_aux_lemma => kernel_rfl)) (fun _ _ _ h => h) (Or.inl ⟨by rfl, ?_⟩) ?_ ?_
  rotate_left
  · intro w'
    go_simp
    with_reducible rfl
  rotate_left
  · simp only [Act.put, List.setIfInBounds_toArray, List.set_cons_zero, List.set_cons_succ, i64_w, i32_w]
    rfl
  refine one_ (i := 21) (N := some 61) (bm 22 4194303) rfl rfl (one_of HT_.out (by as_aux_lemma => kernel_rfl)) (by as_aux_lemma => decide) (fun K hK => ?_)
  refine goes_ Try.func40 (by as_aux_lemma => kernel_rfl) rfl #[.pointer (some ⟨g, 0, none⟩), .bool (false), .int .i64 6] (by rfl) rfl rfl (by simp only [List.map_toArray, List.map_cons, List.map_nil]; rfl) ?_
  with_reducible refine (need_k HP.out (false) 6).mono ?_
  rintro en x4 ⟨rfl, hp_, hk_⟩
  rw [← EB.out] at hp_
  have n0_ := Aside0.mk (cell_kept KW.out hk_ (fun e => hp_.h2.1 e))
  clear KW
  have KW := n0_
  clear n0_
  have n0_ := Aside0.mk (HK.out.then_ hk_ (fun k e => .inl (.inl e)))
  clear HK hk_
  have HK := n0_
  clear n0_
  obtain ⟨c4, ec_⟩ : ∃ z, z = c3.need ((c2.wordsV 1).length == 1 && mayB 0 c0.wordV ((c2.wordsV 1).headD 0)) 6 := ⟨_, rfl⟩
  rw [← ec_] at hp_
  have Ec4 := Aside0.mk ec_
  clear ec_
  have n0_ := Aside0.mk hp_
  clear HP hp_
  have HP := n0_
  clear n0_
  refine ⟨_, rfl, ?_⟩
  refine hK.out _ _ (KW.out) (fun hHeld => ?_)
  clear hK K
  refine norm_ (a' := ?_) ?_ ?_
  rotate_left
  · show Act.put _ (some 61) _ = _
    simp only [Act.put, List.setIfInBounds_toArray, List.set_cons_zero, List.set_cons_succ, i64_w, i32_w]
    rfl
  refine done_ (done_of HT_.out (by as_aux_lemma => kernel_rfl)) ?_
  go_wp2
  have eq_ : lineR 0 m c0 = (c4, { m with sub := c0.wordV, words := c2.wordsV 1 }) := by
    simp only [lineR, ansR, eventsR, logsR, nameR, Rd.bind, Rd.byte, Rd.word, Rd.bytes, Rd.words, Rd.need, Rd.ret, leftR, ← Ec1.out, ← Ec2.out]
    rw [if_neg HZ.out]
    simp only [ansR, eventsR, logsR, nameR, Rd.bind, Rd.byte, Rd.word, Rd.bytes, Rd.words, Rd.need, Rd.ret, leftR, ← Ec3.out, ← Ec4.out]
  rw [eq_]
  exact bodyPost_ret (results_none rfl _ _ _) rfl (⟨rfl, HP.out⟩)
theorem line_0 {w0 w : World} {gr g gm : Nat} {c0 : Cu} {m : Msg} (h : PS.St w0 gr g gm w c0 m) : Calls Try.prog 21 #[.int .i64 0, .pointer (some ⟨g, 0, none⟩), .pointer (some ⟨gm, 0, none⟩)] w fun en w' => en = .returned (.tuple #[]) ∧ PS.St w0 gr g gm w' (lineR 0 m c0).1 (lineR 0 m c0).2 := by
  by_cases hz : c0.wordV = 0
  · exact line_0_e h hz
  by_cases ho : ((c0.wordS.need (subB c0.wordV && ((0 : Int) == 0 || c0.wordV != 4)) 8).wordsV 1).length = 1
  · exact line_0_1 h hz ho
  · exact line_0_0 h hz ho
theorem line_1_e {w0 w : World} {gr g gm : Nat} {c0 : Cu} {m : Msg} (h : PS.St w0 gr g gm w c0 m) (hz : c0.wordV = 0) :
    Calls Try.prog 21 #[.int .i64 1, .pointer (some ⟨g, 0, none⟩), .pointer (some ⟨gm, 0, none⟩)] w fun en w' => en = .returned (.tuple #[]) ∧ PS.St w0 gr g gm w' (lineR 1 m c0).1 (lineR 1 m c0).2 := by
  have HP := Aside0.mk h
  have HZ := Aside0.mk hz
  clear h hz
  go_enter Try.func21, Try.ntmps21
  go_upto_region 1 with (first | (go_at_call 39; obtain ⟨l0, h0⟩ := Cu.wordV_bd (PS.St.good HP.out); (with_reducible refine (PS.St.word HP.out).mono ?_); rintro en x1 ⟨rfl, hp_⟩; obtain ⟨c1, ec_⟩ : ∃ z, z = c0.wordS := ⟨_, rfl⟩; rw [← ec_] at hp_; have Ec1 := Aside0.mk ec_; clear ec_; obtain ⟨ksub, fsub⟩ := PS.St.at_sub hp_; have n0_ := Aside0.mk hp_; clear HP hp_; have HP := n0_; clear n0_))
  have hp_ := HP.out.put_sub ⟨l0, h0⟩
  have n0_ := Aside0.mk hp_
  clear HP hp_
  have HP := n0_
  clear n0_
  have HWF := Aside0.mk (show (Lit.int .u16 c0.wordV).wf = true from by simp [Lit.wf, IntKind.min, IntKind.max, IntKind.signed, IntKind.bits]; omega)
  obtain ⟨c2, e_⟩ : ∃ z, z = c1.need (subB c0.wordV && ((1 : Int) == 0 || c0.wordV != 4)) 8 := ⟨_, rfl⟩
  have Ec2 := Aside0.mk e_
  clear e_
  obtain ⟨ksub, fsub⟩ := PS.St.at_sub HP.out
  go_cut [] from 12 to 30 (fun wx => Aside0 (PS.St w0 gr g gm wx c2 ({ m with sub := c0.wordV })))
  case first =>
    cases hs0_ : (subB c0.wordV) with
    | true =>
      have eb_ : (subB c0.wordV && ((1 : Int) == 0 || c0.wordV != 4)) = (c0.wordV != 4) := by first | (simp only [hs0_]; first | rfl | (simp; done)) | (simp [hs0_]; done) | (simp only [bne, hs0_]; first | rfl | (simp; done))
      have EB_ := Aside0.mk eb_
      clear eb_
      go_wp2_with (first | (go_at_call 41; (with_reducible refine (sub_c HWF.out _).mono ?_); rintro en xb ⟨rfl, hb_⟩; have n0_ := Aside0.mk (PS.St.below HP.out hb_); clear HP hb_; have HP := n0_; clear n0_; obtain ⟨ksub, fsub⟩ := PS.St.at_sub HP.out) | (go_at_call 40; (with_reducible refine (PS.St.need HP.out (c0.wordV != 4) 8).mono ?_); rintro en x2 ⟨rfl, hp_⟩; have n0_ := Aside0.mk hp_; clear HP hp_; have HP := n0_; clear n0_))
      go_meet
      rw [Ec2.out, EB_.out]
      exact HP
    | false =>
      have eb_ : (subB c0.wordV && ((1 : Int) == 0 || c0.wordV != 4)) = (false) := by first | (simp only [hs0_]; first | rfl | (simp; done)) | (simp [hs0_]; done) | (simp only [bne, hs0_]; first | rfl | (simp; done))
      have EB_ := Aside0.mk eb_
      clear eb_
      go_wp2_with (first | (go_at_call 41; (with_reducible refine (sub_c HWF.out _).mono ?_); rintro en xb ⟨rfl, hb_⟩; have n0_ := Aside0.mk (PS.St.below HP.out hb_); clear HP hb_; have HP := n0_; clear n0_; obtain ⟨ksub, fsub⟩ := PS.St.at_sub HP.out) | (go_at_call 40; (with_reducible refine (PS.St.need HP.out (false) 8).mono ?_); rintro en x2 ⟨rfl, hp_⟩; have n0_ := Aside0.mk hp_; clear HP hp_; have HP := n0_; clear n0_))
      go_meet
      rw [Ec2.out, EB_.out]
      exact HP
  case rest =>
  clear HP
  have HP := hcut
  clear hcut
  have hz_ : (c0.wordV != 0) = false := by rw [HZ.out]; rfl
  obtain ⟨ksub, fsub⟩ := PS.St.at_sub HP.out
  go_upto_region 6 with (first | (go_at_call 44; (with_reducible refine (PS.St.left HP.out).mono ?_); rintro en x3 ⟨rfl, hp_⟩; have n0_ := Aside0.mk hp_; clear HP hp_; have HP := n0_; clear n0_))
  clear hz_ ksub fsub
  have wd : Int.tdiv (c2.xs.length : Int) 2 = (c2.xs.length : Int) / 2 := Int.tdiv_eq_ediv_of_nonneg (by omega)
  have wq := wrap64_id (x := (c2.xs.length : Int) / 2) (by omega) (by have := (PS.St.good HP.out).2.1; omega)
  obtain ⟨c3, e_⟩ : ∃ z, z = c2.need ((c2.xs.length : Int) % 2 == 0 && (decide (2 ≤ (c2.xs.length : Int)) && decide ((c2.xs.length : Int) ≤ 250))) 5 := ⟨_, rfl⟩
  have Ec3 := Aside0.mk e_
  clear e_
  go_cut [] from 64 to 77 (fun wx => Aside0 (PS.St w0 gr g gm wx c3 ({ m with sub := c0.wordV })))
  case first =>
    cases hs0_ : ((c2.xs.length : Int) % 2 == 0) with
    | true =>
      have hs0a_ : ((c2.xs.length : Int) % 2 != 0) = false := by first | exact hs0_ | (rw [bne, hs0_]; rfl) | (have := hs0_; rw [bne] at this; simpa using this)
      have hs0t_ : (Int.tmod (c2.xs.length : Int) 2 == 0) = true := by rw [Int.tmod_eq_emod_of_nonneg (by omega)]; exact hs0_
      cases hs1_ : (decide (2 ≤ (c2.xs.length : Int))) with
      | true =>
        have hs1a_ : (decide ((c2.xs.length : Int) ≥ 2)) = true := by first | exact hs1_ | (rw [bne, hs1_]; rfl) | (have := hs1_; rw [bne] at this; simpa using this)
        have eb_ : ((c2.xs.length : Int) % 2 == 0 && (decide (2 ≤ (c2.xs.length : Int)) && decide ((c2.xs.length : Int) ≤ 250))) = (decide ((c2.xs.length : Int) ≤ 250)) := by first | (simp only [hs0_, hs1_]; first | rfl | (simp; done)) | (simp [hs0_, hs1_]; done) | (simp only [bne, hs0_, hs1_]; first | rfl | (simp; done))
        have EB_ := Aside0.mk eb_
        clear eb_
        go_wp2_with (first | (go_at_call 40; (with_reducible refine (PS.St.need HP.out (decide ((c2.xs.length : Int) ≤ 250)) 5).mono ?_); rintro en x4 ⟨rfl, hp_⟩; have n0_ := Aside0.mk hp_; clear HP hp_; have HP := n0_; clear n0_))
        go_meet
        rw [Ec3.out, EB_.out]
        exact HP
      | false =>
        have hs1a_ : (decide ((c2.xs.length : Int) ≥ 2)) = false := by first | exact hs1_ | (rw [bne, hs1_]; rfl) | (have := hs1_; rw [bne] at this; simpa using this)
        have eb_ : ((c2.xs.length : Int) % 2 == 0 && (decide (2 ≤ (c2.xs.length : Int)) && decide ((c2.xs.length : Int) ≤ 250))) = (false) := by first | (simp only [hs0_, hs1_]; first | rfl | (simp; done)) | (simp [hs0_, hs1_]; done) | (simp only [bne, hs0_, hs1_]; first | rfl | (simp; done))
        have EB_ := Aside0.mk eb_
        clear eb_
        go_wp2_with (first | (go_at_call 40; (with_reducible refine (PS.St.need HP.out (false) 5).mono ?_); rintro en x4 ⟨rfl, hp_⟩; have n0_ := Aside0.mk hp_; clear HP hp_; have HP := n0_; clear n0_))
        go_meet
        rw [Ec3.out, EB_.out]
        exact HP
    | false =>
      have hs0a_ : ((c2.xs.length : Int) % 2 != 0) = true := by first | exact hs0_ | (rw [bne, hs0_]; rfl) | (have := hs0_; rw [bne] at this; simpa using this)
      have hs0t_ : (Int.tmod (c2.xs.length : Int) 2 == 0) = false := by rw [Int.tmod_eq_emod_of_nonneg (by omega)]; exact hs0_
      have eb_ : ((c2.xs.length : Int) % 2 == 0 && (decide (2 ≤ (c2.xs.length : Int)) && decide ((c2.xs.length : Int) ≤ 250))) = (false) := by first | (simp only [hs0_]; first | rfl | (simp; done)) | (simp [hs0_]; done) | (simp only [bne, hs0_]; first | rfl | (simp; done))
      have EB_ := Aside0.mk eb_
      clear eb_
      go_wp2_with (first | (go_at_call 40; (with_reducible refine (PS.St.need HP.out (false) 5).mono ?_); rintro en x4 ⟨rfl, hp_⟩; have n0_ := Aside0.mk hp_; clear HP hp_; have HP := n0_; clear n0_))
      go_meet
      rw [Ec3.out, EB_.out]
      exact HP
  case rest =>
  clear HP
  have HP := hcut
  clear hcut
  have HBY := Aside0.mk (Cu.wordsV_bd (PS.St.good HP.out) ((c2.xs.length : Int) / 2))
  go_wp2_with (first | (go_at_call 42; (with_reducible refine (PS.St.words HP.out ((c2.xs.length : Int) / 2)).mono ?_); rintro en x5 ⟨A5, n5, rfl, hz_, hr_, hp_⟩; obtain ⟨c4, ec_⟩ : ∃ z, z = c3.wordsS ((c2.xs.length : Int) / 2) := ⟨_, rfl⟩; rw [← ec_] at hp_; have Ec4 := Aside0.mk ec_; clear ec_; have R5 := Aside0.mk hr_; have R5z := Aside0.mk hz_; clear hr_ hz_; have n0_ := Aside0.mk hp_; clear HP hp_; have HP := n0_; clear n0_; obtain ⟨Aw, nw, kw, fw⟩ := PS.St.at_words HP.out))
  have hp_ := HP.out.put_words R5z.out HBY.out R5.out
  have n0_ := Aside0.mk hp_
  clear HP hp_
  have HP := n0_
  clear n0_
  have eq_ : lineR 1 m c0 = (c4, { m with sub := c0.wordV, words := c3.wordsV ((c2.xs.length : Int) / 2) }) := by
    have e1 : lineR 1 m c0 = echoR { m with sub := c0.wordV } c2 := by
      rw [Ec2.out, Ec1.out]
      show (if c0.wordV = 0 then (_ : Cu → Cu × Msg) else _) _ = _
      rw [if_pos HZ.out]
      rfl
    rw [e1, Ec4.out, Ec3.out]
    rfl
  rw [eq_]
  exact bodyPost_end (results_none rfl _ _ _) rfl (⟨rfl, HP.out⟩)
theorem line_1_1 {w0 w : World} {gr g gm : Nat} {c0 : Cu} {m : Msg} (h : PS.St w0 gr g gm w c0 m) (hz : c0.wordV ≠ 0) (ho : ((c0.wordS.need (subB c0.wordV && ((1 : Int) == 0 || c0.wordV != 4)) 8).wordsV 1).length = 1) :
    Calls Try.prog 21 #[.int .i64 1, .pointer (some ⟨g, 0, none⟩), .pointer (some ⟨gm, 0, none⟩)] w fun en w' => en = .returned (.tuple #[]) ∧ PS.St w0 gr g gm w' (lineR 1 m c0).1 (lineR 1 m c0).2 := by
  have HP := Aside0.mk h
  have HZ := Aside0.mk hz
  clear h hz
  have HO := Aside0.mk ho
  clear ho
  go_enter Try.func21, Try.ntmps21
  go_upto_region 1 with (first | (go_at_call 39; obtain ⟨l0, h0⟩ := Cu.wordV_bd (PS.St.good HP.out); (with_reducible refine (PS.St.word HP.out).mono ?_); rintro en x1 ⟨rfl, hp_⟩; obtain ⟨c1, ec_⟩ : ∃ z, z = c0.wordS := ⟨_, rfl⟩; rw [← ec_] at hp_; have Ec1 := Aside0.mk ec_; clear ec_; obtain ⟨ksub, fsub⟩ := PS.St.at_sub hp_; have n0_ := Aside0.mk hp_; clear HP hp_; have HP := n0_; clear n0_))
  have hp_ := HP.out.put_sub ⟨l0, h0⟩
  have n0_ := Aside0.mk hp_
  clear HP hp_
  have HP := n0_
  clear n0_
  have HWF := Aside0.mk (show (Lit.int .u16 c0.wordV).wf = true from by simp [Lit.wf, IntKind.min, IntKind.max, IntKind.signed, IntKind.bits]; omega)
  obtain ⟨c2, e_⟩ : ∃ z, z = c1.need (subB c0.wordV && ((1 : Int) == 0 || c0.wordV != 4)) 8 := ⟨_, rfl⟩
  have Ec2 := Aside0.mk e_
  clear e_
  obtain ⟨ksub, fsub⟩ := PS.St.at_sub HP.out
  go_cut [] from 12 to 30 (fun wx => Aside0 (PS.St w0 gr g gm wx c2 ({ m with sub := c0.wordV })))
  case first =>
    cases hs0_ : (subB c0.wordV) with
    | true =>
      have eb_ : (subB c0.wordV && ((1 : Int) == 0 || c0.wordV != 4)) = (c0.wordV != 4) := by first | (simp only [hs0_]; first | rfl | (simp; done)) | (simp [hs0_]; done) | (simp only [bne, hs0_]; first | rfl | (simp; done))
      have EB_ := Aside0.mk eb_
      clear eb_
      go_wp2_with (first | (go_at_call 41; (with_reducible refine (sub_c HWF.out _).mono ?_); rintro en xb ⟨rfl, hb_⟩; have n0_ := Aside0.mk (PS.St.below HP.out hb_); clear HP hb_; have HP := n0_; clear n0_; obtain ⟨ksub, fsub⟩ := PS.St.at_sub HP.out) | (go_at_call 40; (with_reducible refine (PS.St.need HP.out (c0.wordV != 4) 8).mono ?_); rintro en x2 ⟨rfl, hp_⟩; have n0_ := Aside0.mk hp_; clear HP hp_; have HP := n0_; clear n0_))
      go_meet
      rw [Ec2.out, EB_.out]
      exact HP
    | false =>
      have eb_ : (subB c0.wordV && ((1 : Int) == 0 || c0.wordV != 4)) = (false) := by first | (simp only [hs0_]; first | rfl | (simp; done)) | (simp [hs0_]; done) | (simp only [bne, hs0_]; first | rfl | (simp; done))
      have EB_ := Aside0.mk eb_
      clear eb_
      go_wp2_with (first | (go_at_call 41; (with_reducible refine (sub_c HWF.out _).mono ?_); rintro en xb ⟨rfl, hb_⟩; have n0_ := Aside0.mk (PS.St.below HP.out hb_); clear HP hb_; have HP := n0_; clear n0_; obtain ⟨ksub, fsub⟩ := PS.St.at_sub HP.out) | (go_at_call 40; (with_reducible refine (PS.St.need HP.out (false) 8).mono ?_); rintro en x2 ⟨rfl, hp_⟩; have n0_ := Aside0.mk hp_; clear HP hp_; have HP := n0_; clear n0_))
      go_meet
      rw [Ec2.out, EB_.out]
      exact HP
  case rest =>
  clear HP
  have HP := hcut
  clear hcut
  have hz_ : (c0.wordV != 0) = true := by simpa using HZ.out
  obtain ⟨ksub, fsub⟩ := PS.St.at_sub HP.out
  have HBY := Aside0.mk (Cu.wordsV_bd (PS.St.good HP.out) 1)
  go_upto_region 4 with (first | (go_at_call 42; (with_reducible refine (PS.St.words HP.out (1)).mono ?_); rintro en x3 ⟨A5, n5, rfl, hz_, hr_, hp_⟩; obtain ⟨c3, ec_⟩ : ∃ z, z = c2.wordsS (1) := ⟨_, rfl⟩; rw [← ec_] at hp_; have Ec3 := Aside0.mk ec_; clear ec_; have R5 := Aside0.mk hr_; have R5z := Aside0.mk hz_; clear hr_ hz_; have n0_ := Aside0.mk hp_; clear HP hp_; have HP := n0_; clear n0_; obtain ⟨Aw, nw, kw, fw⟩ := PS.St.at_words HP.out))
  clear hz_
  have HE := Aside0.mk (show c0.wordS.need (subB c0.wordV && ((1 : Int) == 0 || c0.wordV != 4)) 8 = c2 by rw [Ec2.out, Ec1.out])
  obtain ⟨v, hv⟩ : ∃ v, c2.wordsV 1 = [v] := by have := HO.out; rw [HE.out] at this; exact List.length_eq_one_iff.1 this
  have hvb := HBY.out v (by rw [hv]; simp)
  rw [hv] at R5 R5z HBY ⊢
  have HV := Aside0.mk hv
  clear hv
  obtain ⟨ad, rfl, hx⟩ := Kd.at_int (R5.out _ (Kept.refl _ _)) (0 : Int) (by simp) (by simp)
  have KW := Aside0.mk (show (World.setCell x3 ⟨gm, 12, none⟩ (.slice (some ad) 1 n5)).cell? ⟨gm, 12, none⟩ = some (.slice (some ad) 1 n5) from World.cell?_setCell_same _ _ _ (by rw [kw]))
  have HK := Aside0.mk (show Kept x3 (World.setCell x3 ⟨gm, 12, none⟩ (.slice (some ad) 1 n5)) (fun k => k = g ∨ k = gm ∨ k = gr ∨ k < w0.heap.size) from (Kept.refl _ _).setCell (p := ⟨gm, 12, none⟩) (.inl (.inr (.inl rfl))) _)
  have HX := Aside0.mk (show ∀ W', Kept x3 W' (fun k => k = g ∨ k = gm ∨ k = gr ∨ k < w0.heap.size) → W'.cell? ad = some (.int .u16 v) from fun W' hk => by
    obtain ⟨ad2, e2, hx2⟩ := Kd.at_int (R5.out W' hk) (0 : Int) (by simp) (by simp)
    injection e2 with e2
    rw [← e2] at hx2
    simpa [Addr.add, rd] using hx2)
  have hp_ := HP.out.put_words R5z.out HBY.out R5.out
  have n0_ := Aside0.mk hp_
  clear HP hp_
  have HP := n0_
  clear n0_
  clear hx
  have n0_ := Aside0.mk (((below_drew (Below.refl _ _)).cell (World.block_lt_of_cell? _ _ KW.out)).trans KW.out)
  clear KW
  have KW := n0_
  clear n0_
  have n0_ := Aside0.mk (HK.out.below (below_drew (Below.refl _ _)))
  clear HK
  have HK := n0_
  clear n0_
  have n0_ := Aside0.mk (PS.St.below HP.out (below_drew (Below.refl _ _)))
  clear HP
  have HP := n0_
  clear n0_
  have EB := Aside0.mk (show ((c2.wordsV 1).length == 1 && mayB 1 c0.wordV ((c2.wordsV 1).headD 0)) = (mayB 1 c0.wordV v) from by rw [HV.out]; rfl)
  refine start_ (n := 22) (S := fun w' => w'.cell? ⟨gm, 12, none⟩ = some (.slice (some ad) 1 n5) ∧ w'.cell? ⟨gm, 8, none⟩ = some (.int .u16 c0.wordV) ∧ w'.cell? ad = some (.int .u16 v)) (ds := []) (bm 22 0) (by as_aux_lemma => kernel_rfl) rfl (by as_aux_lemma => kernel_rfl) ⟨KW.out, (PS.St.at_sub HP.out).1, (HX.out _ HK.out)⟩ (fun hHeld => ?_)
  refine with_tabW line.tab4 line.bits4 (fun HT_ HW_ => ?_)
  refine pure_ (i := 0) (N := some 40) (v := ?_) (a' := ?_) (bm 22 1) rfl rfl (any_of HT_.out (by as_aux_lemma => kernel_rfl)) (fun _ _ _ h => h) (Or.inl ⟨by rfl, ?_⟩) ?_ ?_
  rotate_left
  · intro w'
    go_simp
    with_reducible rfl
  rotate_left
  · simp only [Act.put, List.setIfInBounds_toArray, List.set_cons_zero, List.set_cons_succ, i64_w, i32_w]
    rfl
  refine pure_ (i := 1) (N := some 41) (v := ?_) (a' := ?_) (bm 22 3) rfl rfl (any_of HT_.out (by as_aux_lemma => kernel_rfl)) (fun _ _ _ h => h) (Or.inl ⟨by rfl, ?_⟩) ?_ ?_
  rotate_left
  · intro w'
    go_simp
    with_reducible rfl
  rotate_left
  · simp only [Act.put, List.setIfInBounds_toArray, List.set_cons_zero, List.set_cons_succ, i64_w, i32_w]
    rfl
  refine pure_ (i := 2) (N := some 42) (v := ?_) (a' := ?_) (bm 22 7) rfl rfl (any_of HT_.out (by as_aux_lemma => kernel_rfl)) (fun _ _ _ h => h) (Or.inl ⟨by rfl, ?_⟩) ?_ ?_
  rotate_left
  · intro w'
    go_simp
    with_reducible rfl
  rotate_left
  · simp only [Act.put, List.setIfInBounds_toArray, List.set_cons_zero, List.set_cons_succ, i64_w, i32_w]
    rfl
  refine pure_ (i := 3) (N := some 43) (v := ?_) (a' := ?_) (bm 22 15) rfl rfl (any_of HT_.out (by as_aux_lemma => kernel_rfl)) (fun _ _ _ h => h) (Or.inl ⟨by rfl, ?_⟩) ?_ ?_
  rotate_left
  · intro w'
    go_simp
    with_reducible rfl
  rotate_left
  · simp only [Act.put, List.setIfInBounds_toArray, List.set_cons_zero, List.set_cons_succ, i64_w, i32_w]
    rfl
  refine take_ (i := 4) (N := some 44) (v := ?_) (a' := ?_) (bm 22 31) rfl rfl (take_ofW HT_.out HW_.out (by as_aux_lemma => kernel_rfl)) (fun _ _ _ h => h) (Or.inl ⟨by rfl, ?_⟩) hHeld ?_ ?_
  rotate_left
  · rintro w' ⟨s0, s1, s2⟩
    go_simp
    with_reducible rfl
  rotate_left
  · simp only [Act.put, List.setIfInBounds_toArray, List.set_cons_zero, List.set_cons_succ, i64_w, i32_w]
    rfl
  refine pure_ (i := 5) (N := some 45) (v := ?_) (a' := ?_) (bm 22 63) rfl rfl (any_of HT_.out (by as_aux_lemma => kernel_rfl)) (fun _ _ _ h => h) (Or.inl ⟨by rfl, ?_⟩) ?_ ?_
  rotate_left
  · intro w'
    go_simp
    with_reducible rfl
  rotate_left
  · simp only [Act.put, List.setIfInBounds_toArray, List.set_cons_zero, List.set_cons_succ, i64_w, i32_w]
    rfl
  refine pure_ (i := 6) (N := some 46) (v := ?_) (a' := ?_) (bm 22 127) rfl rfl (any_of HT_.out (by as_aux_lemma => kernel_rfl)) (fun _ _ _ h => h) (Or.inl ⟨by rfl, ?_⟩) ?_ ?_
  rotate_left
  · intro w'
    go_simp
    with_reducible rfl
  rotate_left
  · simp only [Act.put, List.setIfInBounds_toArray, List.set_cons_zero, List.set_cons_succ, i64_w, i32_w]
    rfl
  refine pure_ (i := 7) (N := some 47) (v := ?_) (a' := ?_) (bm 22 255) rfl rfl (any_of HT_.out (by as_aux_lemma => kernel_rfl)) (fun _ _ _ h => h) (Or.inl ⟨by rfl, ?_⟩) ?_ ?_
  rotate_left
  · intro w'
    go_simp
    with_reducible rfl
  rotate_left
  · simp only [Act.put, List.setIfInBounds_toArray, List.set_cons_zero, List.set_cons_succ, i64_w, i32_w]
    rfl
  refine pure_ (i := 8) (N := some 48) (v := ?_) (a' := ?_) (bm 22 511) rfl rfl (any_of HT_.out (by as_aux_lemma => kernel_rfl)) (fun _ _ _ h => h) (Or.inl ⟨by rfl, ?_⟩) ?_ ?_
  rotate_left
  · intro w'
    go_simp
    with_reducible rfl
  rotate_left
  · simp only [Act.put, List.setIfInBounds_toArray, List.set_cons_zero, List.set_cons_succ, i64_w, i32_w]
    rfl
  refine pure_ (i := 9) (N := some 49) (v := ?_) (a' := ?_) (bm 22 1023) rfl rfl (any_of HT_.out (by as_aux_lemma => kernel_rfl)) (fun _ _ _ h => h) (Or.inl ⟨by rfl, ?_⟩) ?_ ?_
  rotate_left
  · intro w'
    go_simp
    with_reducible rfl
  rotate_left
  · simp only [Act.put, List.setIfInBounds_toArray, List.set_cons_zero, List.set_cons_succ, i64_w, i32_w]
    rfl
  refine pure_ (i := 10) (N := some 50) (v := ?_) (a' := ?_) (bm 22 2047) rfl rfl (any_of HT_.out (by as_aux_lemma => kernel_rfl)) (fun _ _ _ h => h) (Or.inl ⟨by rfl, ?_⟩) ?_ ?_
  rotate_left
  · intro w'
    go_simp
    with_reducible rfl
  rotate_left
  · simp only [Act.put, List.setIfInBounds_toArray, List.set_cons_zero, List.set_cons_succ, i64_w, i32_w]
    rfl
  refine pure_ (i := 11) (N := some 51) (v := ?_) (a' := ?_) (bm 22 4095) rfl rfl (any_of HT_.out (by as_aux_lemma => kernel_rfl)) (fun _ _ _ h => h) (Or.inl ⟨by rfl, ?_⟩) ?_ ?_
  rotate_left
  · intro w'
    go_simp
    with_reducible rfl
  rotate_left
  · simp only [Act.put, List.setIfInBounds_toArray, List.set_cons_zero, List.set_cons_succ, i64_w, i32_w]
    rfl
  refine pure_ (i := 13) (N := some 53) (v := ?_) (a' := ?_) (bm 22 12287) rfl rfl (any_of HT_.out (by as_aux_lemma => kernel_rfl)) (fun _ _ _ h => h) (Or.inl ⟨by rfl, ?_⟩) ?_ ?_
  rotate_left
  · intro w'
    go_simp
    with_reducible rfl
  rotate_left
  · simp only [Act.put, List.setIfInBounds_toArray, List.set_cons_zero, List.set_cons_succ, i64_w, i32_w]
    rfl
  refine pure_ (i := 14) (N := some 54) (v := ?_) (a' := ?_) (bm 22 28671) rfl rfl (any_of HT_.out (by as_aux_lemma => kernel_rfl)) (fun _ _ _ h => h) (Or.inl ⟨by rfl, ?_⟩) ?_ ?_
  rotate_left
  · intro w'
    go_simp
    with_reducible rfl
  rotate_left
  · simp only [Act.put, List.setIfInBounds_toArray, List.set_cons_zero, List.set_cons_succ, i64_w, i32_w]
    rfl
  refine pure_ (i := 15) (N := some 55) (v := ?_) (a' := ?_) (bm 22 61439) rfl rfl (any_of HT_.out (by as_aux_lemma => kernel_rfl)) (fun _ _ _ h => h) (Or.inl ⟨by rfl, ?_⟩) ?_ ?_
  rotate_left
  · intro w'
    go_simp
    with_reducible rfl
  rotate_left
  · simp only [Act.put, List.setIfInBounds_toArray, List.set_cons_zero, List.set_cons_succ, i64_w, i32_w]
    rfl
  refine take_ (i := 12) (N := some 52) (v := ?_) (a' := ?_) (bm 22 65535) rfl rfl (take_ofW HT_.out HW_.out (by as_aux_lemma => kernel_rfl)) (fun _ _ _ h => h) (Or.inl ⟨by rfl, ?_⟩) hHeld ?_ ?_
  rotate_left
  · rintro w' ⟨s0, s1, s2⟩
    go_simp
    with_reducible rfl
  rotate_left
  · simp only [Act.put, List.setIfInBounds_toArray, List.set_cons_zero, List.set_cons_succ, i64_w, i32_w]
    rfl
  refine take_ (i := 16) (N := some 56) (v := ?_) (a' := ?_) (bm 22 131071) rfl rfl (take_ofW HT_.out HW_.out (by as_aux_lemma => kernel_rfl)) (fun _ _ _ h => h) (Or.inl ⟨by rfl, ?_⟩) hHeld ?_ ?_
  rotate_left
  · rintro w' ⟨s0, s1, s2⟩
    go_simp
    with_reducible rfl
  rotate_left
  · simp only [Act.put, List.setIfInBounds_toArray, List.set_cons_zero, List.set_cons_succ, i64_w, i32_w]
    rfl
  refine pure_ (i := 17) (N := some 57) (v := ?_) (a' := ?_) (bm 22 262143) rfl rfl (any_of HT_.out (by as_aux_lemma => kernel_rfl)) (fun _ _ _ h => h) (Or.inl ⟨by rfl, ?_⟩) ?_ ?_
  rotate_left
  · intro w'
    go_simp
    with_reducible rfl
  rotate_left
  · simp only [Act.put, List.setIfInBounds_toArray, List.set_cons_zero, List.set_cons_succ, i64_w, i32_w]
    rfl
  refine take_ (i := 18) (N := some 58) (v := ?_) (a' := ?_) (bm 22 524287) rfl rfl (take_ofW HT_.out HW_.out (by as_aux_lemma => kernel_rfl)) (fun _ _ _ h => h) (Or.inl ⟨by rfl, ?_⟩) hHeld ?_ ?_
  rotate_left
  · rintro w' ⟨s0, s1, s2⟩
    go_simp
    with_reducible rfl
  rotate_left
  · simp only [Act.put, List.setIfInBounds_toArray, List.set_cons_zero, List.set_cons_succ, i64_w, i32_w]
    rfl
  refine one_ (i := 19) (N := some 59) (bm 22 1048575) rfl rfl (one_of HT_.out (by as_aux_lemma => kernel_rfl)) (by as_aux_lemma => decide) (fun K hK => ?_)
  refine goes_ Try.func43 (by as_aux_lemma => kernel_rfl) rfl #[.int .i64 1, .int .u16 c0.wordV, .int .u16 v] (by rfl) rfl rfl (by simp only [List.map_toArray, List.map_cons, List.map_nil]; rfl) ?_
  with_reducible refine (may_any (.inr rfl) ⟨l0, h0⟩ hvb _).mono ?_
  rintro en x90 ⟨rfl, hb_⟩
  have n0_ := Aside0.mk ((hb_.cell (World.block_lt_of_cell? _ _ KW.out)).trans KW.out)
  clear KW
  have KW := n0_
  clear n0_
  have n0_ := Aside0.mk (HK.out.below hb_)
  clear HK
  have HK := n0_
  clear n0_
  have n0_ := Aside0.mk (PS.St.below HP.out hb_)
  clear HP
  have HP := n0_
  clear n0_
  clear hb_
  refine ⟨_, rfl, ?_⟩
  refine hK.out _ _ ⟨KW.out, (PS.St.at_sub HP.out).1, (HX.out _ HK.out)⟩ (fun hHeld => ?_)
  clear hK K
  refine norm_ (a' := ?_) ?_ ?_
  rotate_left
  · show Act.put _ (some 59) _ = _
    simp only [Act.put, List.setIfInBounds_toArray, List.set_cons_zero, List.set_cons_succ, i64_w, i32_w]
    rfl
  refine pure_ (i := 20) (N := some 60) (v := ?_) (a' := ?_) (bm 22 2097151) rfl rfl (any_of HT_.out (by as_aux_lemma => kernel_rfl)) (fun _ _ _ h => h) (Or.inl ⟨by rfl, ?_⟩) ?_ ?_
  rotate_left
  · intro w'
    go_simp
    with_reducible rfl
  rotate_left
  · simp only [Act.put, List.setIfInBounds_toArray, List.set_cons_zero, List.set_cons_succ, i64_w, i32_w]
    rfl
  refine one_ (i := 21) (N := some 61) (bm 22 4194303) rfl rfl (one_of HT_.out (by as_aux_lemma => kernel_rfl)) (by as_aux_lemma => decide) (fun K hK => ?_)
  refine goes_ Try.func40 (by as_aux_lemma => kernel_rfl) rfl #[.pointer (some ⟨g, 0, none⟩), .bool (mayB 1 c0.wordV v), .int .i64 6] (by rfl) rfl rfl (by simp only [List.map_toArray, List.map_cons, List.map_nil]; rfl) ?_
  with_reducible refine (need_k HP.out (mayB 1 c0.wordV v) 6).mono ?_
  rintro en x4 ⟨rfl, hp_, hk_⟩
  rw [← EB.out] at hp_
  have n0_ := Aside0.mk (cell_kept KW.out hk_ (fun e => hp_.h2.1 e))
  clear KW
  have KW := n0_
  clear n0_
  have n0_ := Aside0.mk (HK.out.then_ hk_ (fun k e => .inl (.inl e)))
  clear HK hk_
  have HK := n0_
  clear n0_
  obtain ⟨c4, ec_⟩ : ∃ z, z = c3.need ((c2.wordsV 1).length == 1 && mayB 1 c0.wordV ((c2.wordsV 1).headD 0)) 6 := ⟨_, rfl⟩
  rw [← ec_] at hp_
  have Ec4 := Aside0.mk ec_
  clear ec_
  have n0_ := Aside0.mk hp_
  clear HP hp_
  have HP := n0_
  clear n0_
  refine ⟨_, rfl, ?_⟩
  refine hK.out _ _ ⟨KW.out, (PS.St.at_sub HP.out).1, (HX.out _ HK.out)⟩ (fun hHeld => ?_)
  clear hK K
  refine norm_ (a' := ?_) ?_ ?_
  rotate_left
  · show Act.put _ (some 61) _ = _
    simp only [Act.put, List.setIfInBounds_toArray, List.set_cons_zero, List.set_cons_succ, i64_w, i32_w]
    rfl
  refine done_ (done_of HT_.out (by as_aux_lemma => kernel_rfl)) ?_
  go_wp2
  have eq_ : lineR 1 m c0 = (c4, { m with sub := c0.wordV, words := [v] }) := by
    simp only [lineR, ansR, eventsR, logsR, nameR, Rd.bind, Rd.byte, Rd.word, Rd.bytes, Rd.words, Rd.need, Rd.ret, leftR, ← Ec1.out, ← Ec2.out]
    rw [if_neg HZ.out]
    simp only [ansR, eventsR, logsR, nameR, Rd.bind, Rd.byte, Rd.word, Rd.bytes, Rd.words, Rd.need, Rd.ret, leftR, ← Ec3.out, ← Ec4.out]
    rw [HV.out]
  rw [eq_]
  exact bodyPost_ret (results_none rfl _ _ _) rfl (⟨rfl, HP.out⟩)
theorem line_1_0 {w0 w : World} {gr g gm : Nat} {c0 : Cu} {m : Msg} (h : PS.St w0 gr g gm w c0 m) (hz : c0.wordV ≠ 0) (ho : ((c0.wordS.need (subB c0.wordV && ((1 : Int) == 0 || c0.wordV != 4)) 8).wordsV 1).length ≠ 1) :
    Calls Try.prog 21 #[.int .i64 1, .pointer (some ⟨g, 0, none⟩), .pointer (some ⟨gm, 0, none⟩)] w fun en w' => en = .returned (.tuple #[]) ∧ PS.St w0 gr g gm w' (lineR 1 m c0).1 (lineR 1 m c0).2 := by
  have HP := Aside0.mk h
  have HZ := Aside0.mk hz
  clear h hz
  have HO := Aside0.mk ho
  clear ho
  go_enter Try.func21, Try.ntmps21
  go_upto_region 1 with (first | (go_at_call 39; obtain ⟨l0, h0⟩ := Cu.wordV_bd (PS.St.good HP.out); (with_reducible refine (PS.St.word HP.out).mono ?_); rintro en x1 ⟨rfl, hp_⟩; obtain ⟨c1, ec_⟩ : ∃ z, z = c0.wordS := ⟨_, rfl⟩; rw [← ec_] at hp_; have Ec1 := Aside0.mk ec_; clear ec_; obtain ⟨ksub, fsub⟩ := PS.St.at_sub hp_; have n0_ := Aside0.mk hp_; clear HP hp_; have HP := n0_; clear n0_))
  have hp_ := HP.out.put_sub ⟨l0, h0⟩
  have n0_ := Aside0.mk hp_
  clear HP hp_
  have HP := n0_
  clear n0_
  have HWF := Aside0.mk (show (Lit.int .u16 c0.wordV).wf = true from by simp [Lit.wf, IntKind.min, IntKind.max, IntKind.signed, IntKind.bits]; omega)
  obtain ⟨c2, e_⟩ : ∃ z, z = c1.need (subB c0.wordV && ((1 : Int) == 0 || c0.wordV != 4)) 8 := ⟨_, rfl⟩
  have Ec2 := Aside0.mk e_
  clear e_
  obtain ⟨ksub, fsub⟩ := PS.St.at_sub HP.out
  go_cut [] from 12 to 30 (fun wx => Aside0 (PS.St w0 gr g gm wx c2 ({ m with sub := c0.wordV })))
  case first =>
    cases hs0_ : (subB c0.wordV) with
    | true =>
      have eb_ : (subB c0.wordV && ((1 : Int) == 0 || c0.wordV != 4)) = (c0.wordV != 4) := by first | (simp only [hs0_]; first | rfl | (simp; done)) | (simp [hs0_]; done) | (simp only [bne, hs0_]; first | rfl | (simp; done))
      have EB_ := Aside0.mk eb_
      clear eb_
      go_wp2_with (first | (go_at_call 41; (with_reducible refine (sub_c HWF.out _).mono ?_); rintro en xb ⟨rfl, hb_⟩; have n0_ := Aside0.mk (PS.St.below HP.out hb_); clear HP hb_; have HP := n0_; clear n0_; obtain ⟨ksub, fsub⟩ := PS.St.at_sub HP.out) | (go_at_call 40; (with_reducible refine (PS.St.need HP.out (c0.wordV != 4) 8).mono ?_); rintro en x2 ⟨rfl, hp_⟩; have n0_ := Aside0.mk hp_; clear HP hp_; have HP := n0_; clear n0_))
      go_meet
      rw [Ec2.out, EB_.out]
      exact HP
    | false =>
      have eb_ : (subB c0.wordV && ((1 : Int) == 0 || c0.wordV != 4)) = (false) := by first | (simp only [hs0_]; first | rfl | (simp; done)) | (simp [hs0_]; done) | (simp only [bne, hs0_]; first | rfl | (simp; done))
      have EB_ := Aside0.mk eb_
      clear eb_
      go_wp2_with (first | (go_at_call 41; (with_reducible refine (sub_c HWF.out _).mono ?_); rintro en xb ⟨rfl, hb_⟩; have n0_ := Aside0.mk (PS.St.below HP.out hb_); clear HP hb_; have HP := n0_; clear n0_; obtain ⟨ksub, fsub⟩ := PS.St.at_sub HP.out) | (go_at_call 40; (with_reducible refine (PS.St.need HP.out (false) 8).mono ?_); rintro en x2 ⟨rfl, hp_⟩; have n0_ := Aside0.mk hp_; clear HP hp_; have HP := n0_; clear n0_))
      go_meet
      rw [Ec2.out, EB_.out]
      exact HP
  case rest =>
  clear HP
  have HP := hcut
  clear hcut
  have hz_ : (c0.wordV != 0) = true := by simpa using HZ.out
  obtain ⟨ksub, fsub⟩ := PS.St.at_sub HP.out
  have HBY := Aside0.mk (Cu.wordsV_bd (PS.St.good HP.out) 1)
  go_upto_region 4 with (first | (go_at_call 42; (with_reducible refine (PS.St.words HP.out (1)).mono ?_); rintro en x3 ⟨A5, n5, rfl, hz_, hr_, hp_⟩; obtain ⟨c3, ec_⟩ : ∃ z, z = c2.wordsS (1) := ⟨_, rfl⟩; rw [← ec_] at hp_; have Ec3 := Aside0.mk ec_; clear ec_; have R5 := Aside0.mk hr_; have R5z := Aside0.mk hz_; clear hr_ hz_; have n0_ := Aside0.mk hp_; clear HP hp_; have HP := n0_; clear n0_; obtain ⟨Aw, nw, kw, fw⟩ := PS.St.at_words HP.out))
  clear hz_
  have HE := Aside0.mk (show c0.wordS.need (subB c0.wordV && ((1 : Int) == 0 || c0.wordV != 4)) 8 = c2 by rw [Ec2.out, Ec1.out])
  have KW := Aside0.mk (show (World.setCell x3 ⟨gm, 12, none⟩ (.slice A5 (c2.wordsV 1).length n5)).cell? ⟨gm, 12, none⟩ = some (.slice A5 (c2.wordsV 1).length n5) from World.cell?_setCell_same _ _ _ (by rw [kw]))
  have HK := Aside0.mk (show Kept x3 (World.setCell x3 ⟨gm, 12, none⟩ (.slice A5 (c2.wordsV 1).length n5)) (fun k => k = g ∨ k = gm ∨ k = gr ∨ k < w0.heap.size) from (Kept.refl _ _).setCell (p := ⟨gm, 12, none⟩) (.inl (.inr (.inl rfl))) _)
  have hp_ := HP.out.put_words R5z.out HBY.out R5.out
  have n0_ := Aside0.mk hp_
  clear HP hp_
  have HP := n0_
  clear n0_
  have n0_ := Aside0.mk (((below_drew (Below.refl _ _)).cell (World.block_lt_of_cell? _ _ KW.out)).trans KW.out)
  clear KW
  have KW := n0_
  clear n0_
  have n0_ := Aside0.mk (HK.out.below (below_drew (Below.refl _ _)))
  clear HK
  have HK := n0_
  clear n0_
  have n0_ := Aside0.mk (PS.St.below HP.out (below_drew (Below.refl _ _)))
  clear HP
  have HP := n0_
  clear n0_
  have EB := Aside0.mk (show ((c2.wordsV 1).length == 1 && mayB 1 c0.wordV ((c2.wordsV 1).headD 0)) = (false) from by rw [show ((c2.wordsV 1).length == 1) = false from beq_eq_false_iff_ne.2 (by have := HO.out; rw [HE.out] at this; exact this)]; rfl)
  have hl1 : ((((c2.wordsV 1).length : Nat) : Int) == 1) = false := beq_eq_false_iff_ne.2 (by have := HO.out; rw [HE.out] at this; omega)
  refine start_ (n := 22) (S := fun w' => w'.cell? ⟨gm, 12, none⟩ = some (.slice A5 (c2.wordsV 1).length n5)) (ds := []) (bm 22 0) (by as_aux_lemma => kernel_rfl) rfl (by as_aux_lemma => kernel_rfl) (KW.out) (fun hHeld => ?_)
  refine with_tabW line.tab4 line.bits4 (fun HT_ HW_ => ?_)
  refine pure_ (i := 0) (N := some 40) (v := ?_) (a' := ?_) (bm 22 1) rfl rfl (any_of HT_.out (by as_aux_lemma => kernel_rfl)) (fun _ _ _ h => h) (Or.inl ⟨by rfl, ?_⟩) ?_ ?_
  rotate_left
  · intro w'
    go_simp
    with_reducible rfl
  rotate_left
  · simp only [Act.put, List.setIfInBounds_toArray, List.set_cons_zero, List.set_cons_succ, i64_w, i32_w]
    rfl
  refine pure_ (i := 1) (N := some 41) (v := ?_) (a' := ?_) (bm 22 3) rfl rfl (any_of HT_.out (by as_aux_lemma => kernel_rfl)) (fun _ _ _ h => h) (Or.inl ⟨by rfl, ?_⟩) ?_ ?_
  rotate_left
  · intro w'
    go_simp
    with_reducible rfl
  rotate_left
  · simp only [Act.put, List.setIfInBounds_toArray, List.set_cons_zero, List.set_cons_succ, i64_w, i32_w]
    rfl
  refine pure_ (i := 2) (N := some 42) (v := ?_) (a' := ?_) (bm 22 7) rfl rfl (any_of HT_.out (by as_aux_lemma => kernel_rfl)) (fun _ _ _ h => h) (Or.inl ⟨by rfl, ?_⟩) ?_ ?_
  rotate_left
  · intro w'
    go_simp
    with_reducible rfl
  rotate_left
  · simp only [Act.put, List.setIfInBounds_toArray, List.set_cons_zero, List.set_cons_succ, i64_w, i32_w]
    rfl
  refine pure_ (i := 3) (N := some 43) (v := ?_) (a' := ?_) (bm 22 15) rfl rfl (any_of HT_.out (by as_aux_lemma => kernel_rfl)) (fun _ _ _ h => h) (Or.inl ⟨by rfl, ?_⟩) ?_ ?_
  rotate_left
  · intro w'
    go_simp
    with_reducible rfl
  rotate_left
  · simp only [Act.put, List.setIfInBounds_toArray, List.set_cons_zero, List.set_cons_succ, i64_w, i32_w]
    rfl
  refine take_ (i := 4) (N := some 44) (v := ?_) (a' := ?_) (bm 22 31) rfl rfl (take_ofW HT_.out HW_.out (by as_aux_lemma => kernel_rfl)) (fun _ _ _ h => h) (Or.inl ⟨by rfl, ?_⟩) hHeld ?_ ?_
  rotate_left
  · intro w' s0
    go_simp
    with_reducible rfl
  rotate_left
  · simp only [Act.put, List.setIfInBounds_toArray, List.set_cons_zero, List.set_cons_succ, i64_w, i32_w]
    rfl
  refine pure_ (i := 5) (N := some 45) (v := ?_) (a' := ?_) (bm 22 63) rfl rfl (any_of HT_.out (by as_aux_lemma => kernel_rfl)) (fun _ _ _ h => h) (Or.inl ⟨by rfl, ?_⟩) ?_ ?_
  rotate_left
  · intro w'
    go_simp
    with_reducible rfl
  rotate_left
  · simp only [Act.put, List.setIfInBounds_toArray, List.set_cons_zero, List.set_cons_succ, i64_w, i32_w]
    rfl
  refine pure_ (i := 6) (N := some 46) (v := ?_) (a' := ?_) (bm 22 127) rfl rfl (any_of HT_.out (by as_aux_lemma => kernel_rfl)) (fun _ _ _ h => h) (Or.inl ⟨by rfl, ?_⟩) ?_ ?_
  rotate_left
  · intro w'
    go_simp
    with_reducible rfl
  rotate_left
  · simp only [Act.put, List.setIfInBounds_toArray, List.set_cons_zero, List.set_cons_succ, i64_w, i32_w]
    rfl
  refine pure_ (i := 7) (N := some 47) (v := ?_) (a' := ?_) (bm 22 255) rfl rfl (any_of HT_.out (by as_aux_lemma => kernel_rfl)) (fun _ _ _ h => h) (Or.inl ⟨by rfl, ?_⟩) ?_ ?_
  rotate_left
  · intro w'
    go_simp
    with_reducible rfl
  rotate_left
  · simp only [Act.put, List.setIfInBounds_toArray, List.set_cons_zero, List.set_cons_succ, i64_w, i32_w]
    rfl
  refine pure_ (i := 8) (N := some 48) (v := undef) (a' := ?_) (bm 22 511) rfl rfl (any_of HT_.out (by as_aux_lemma => kernel_rfl)) (fun _ _ _ h => h) (Or.inr ⟨by rfl, rfl⟩) ?_ ?_
  rotate_left
  · simp only [Act.put, List.setIfInBounds_toArray, List.set_cons_zero, List.set_cons_succ, i64_w, i32_w]
    rfl
  refine pure_ (i := 9) (N := some 49) (v := undef) (a' := ?_) (bm 22 1023) rfl rfl (any_of HT_.out (by as_aux_lemma => kernel_rfl)) (fun _ _ _ h => h) (Or.inr ⟨by rfl, rfl⟩) ?_ ?_
  rotate_left
  · simp only [Act.put, List.setIfInBounds_toArray, List.set_cons_zero, List.set_cons_succ, i64_w, i32_w]
    rfl
  refine pure_ (i := 10) (N := some 50) (v := undef) (a' := ?_) (bm 22 2047) rfl rfl (any_of HT_.out (by as_aux_lemma => kernel_rfl)) (fun _ _ _ h => h) (Or.inr ⟨by rfl, rfl⟩) ?_ ?_
  rotate_left
  · simp only [Act.put, List.setIfInBounds_toArray, List.set_cons_zero, List.set_cons_succ, i64_w, i32_w]
    rfl
  refine pure_ (i := 11) (N := some 51) (v := undef) (a' := ?_) (bm 22 4095) rfl rfl (any_of HT_.out (by as_aux_lemma => kernel_rfl)) (fun _ _ _ h => h) (Or.inr ⟨by rfl, rfl⟩) ?_ ?_
  rotate_left
  · simp only [Act.put, List.setIfInBounds_toArray, List.set_cons_zero, List.set_cons_succ, i64_w, i32_w]
    rfl
  refine pure_ (i := 12) (N := some 52) (v := undef) (a' := ?_) (bm 22 8191) rfl rfl (any_of HT_.out (by as_aux_lemma => kernel_rfl)) (fun _ _ _ h => h) (Or.inr ⟨by rfl, rfl⟩) ?_ ?_
  rotate_left
  · simp only [Act.put, List.setIfInBounds_toArray, List.set_cons_zero, List.set_cons_succ, i64_w, i32_w]
    rfl
  refine pure_ (i := 13) (N := some 53) (v := undef) (a' := ?_) (bm 22 16383) rfl rfl (any_of HT_.out (by as_aux_lemma => kernel_rfl)) (fun _ _ _ h => h) (Or.inr ⟨by rfl, rfl⟩) ?_ ?_
  rotate_left
  · simp only [Act.put, List.setIfInBounds_toArray, List.set_cons_zero, List.set_cons_succ, i64_w, i32_w]
    rfl
  refine pure_ (i := 14) (N := some 54) (v := undef) (a' := ?_) (bm 22 32767) rfl rfl (any_of HT_.out (by as_aux_lemma => kernel_rfl)) (fun _ _ _ h => h) (Or.inr ⟨by rfl, rfl⟩) ?_ ?_
  rotate_left
  · simp only [Act.put, List.setIfInBounds_toArray, List.set_cons_zero, List.set_cons_succ, i64_w, i32_w]
    rfl
  refine pure_ (i := 15) (N := some 55) (v := undef) (a' := ?_) (bm 22 65535) rfl rfl (any_of HT_.out (by as_aux_lemma => kernel_rfl)) (fun _ _ _ h => h) (Or.inr ⟨by rfl, rfl⟩) ?_ ?_
  rotate_left
  · simp only [Act.put, List.setIfInBounds_toArray, List.set_cons_zero, List.set_cons_succ, i64_w, i32_w]
    rfl
  refine pure_ (i := 16) (N := some 56) (v := undef) (a' := ?_) (bm 22 131071) rfl rfl (any_of HT_.out (by as_aux_lemma => kernel_rfl)) (fun _ _ _ h => h) (Or.inr ⟨by rfl, rfl⟩) ?_ ?_
  rotate_left
  · simp only [Act.put, List.setIfInBounds_toArray, List.set_cons_zero, List.set_cons_succ, i64_w, i32_w]
    rfl
  refine pure_ (i := 17) (N := some 57) (v := undef) (a' := ?_) (bm 22 262143) rfl rfl (any_of HT_.out (by as_aux_lemma => kernel_rfl)) (fun _ _ _ h => h) (Or.inr ⟨by rfl, rfl⟩) ?_ ?_
  rotate_left
  · simp only [Act.put, List.setIfInBounds_toArray, List.set_cons_zero, List.set_cons_succ, i64_w, i32_w]
    rfl
  refine pure_ (i := 18) (N := some 58) (v := undef) (a' := ?_) (bm 22 524287) rfl rfl (any_of HT_.out (by as_aux_lemma => kernel_rfl)) (fun _ _ _ h => h) (Or.inr ⟨by rfl, rfl⟩) ?_ ?_
  rotate_left
  · simp only [Act.put, List.setIfInBounds_toArray, List.set_cons_zero, List.set_cons_succ, i64_w, i32_w]
    rfl
  refine pure_ (i := 19) (N := some 59) (v := undef) (a' := ?_) (bm 22 1048575) rfl rfl (any_of HT_.out (by as_aux_lemma => kernel_rfl)) (fun _ _ _ h => h) (Or.inr ⟨by rfl, rfl⟩) ?_ ?_
  rotate_left
  · simp only [Act.put, List.setIfInBounds_toArray, List.set_cons_zero, List.set_cons_succ, i64_w, i32_w]
    rfl
  refine pure_ (i := 20) (N := some 60) (v := ?_) (a' := ?_) (bm 22 2097151) rfl rfl (any_of HT_.out (by as_aux_lemma => kernel_rfl)) (fun _ _ _ h => h) (Or.inl ⟨by rfl, ?_⟩) ?_ ?_
  rotate_left
  · intro w'
    go_simp
    with_reducible rfl
  rotate_left
  · simp only [Act.put, List.setIfInBounds_toArray, List.set_cons_zero, List.set_cons_succ, i64_w, i32_w]
    rfl
  refine one_ (i := 21) (N := some 61) (bm 22 4194303) rfl rfl (one_of HT_.out (by as_aux_lemma => kernel_rfl)) (by as_aux_lemma => decide) (fun K hK => ?_)
  refine goes_ Try.func40 (by as_aux_lemma => kernel_rfl) rfl #[.pointer (some ⟨g, 0, none⟩), .bool (false), .int .i64 6] (by rfl) rfl rfl (by simp only [List.map_toArray, List.map_cons, List.map_nil]; rfl) ?_
  with_reducible refine (need_k HP.out (false) 6).mono ?_
  rintro en x4 ⟨rfl, hp_, hk_⟩
  rw [← EB.out] at hp_
  have n0_ := Aside0.mk (cell_kept KW.out hk_ (fun e => hp_.h2.1 e))
  clear KW
  have KW := n0_
  clear n0_
  have n0_ := Aside0.mk (HK.out.then_ hk_ (fun k e => .inl (.inl e)))
  clear HK hk_
  have HK := n0_
  clear n0_
  obtain ⟨c4, ec_⟩ : ∃ z, z = c3.need ((c2.wordsV 1).length == 1 && mayB 1 c0.wordV ((c2.wordsV 1).headD 0)) 6 := ⟨_, rfl⟩
  rw [← ec_] at hp_
  have Ec4 := Aside0.mk ec_
  clear ec_
  have n0_ := Aside0.mk hp_
  clear HP hp_
  have HP := n0_
  clear n0_
  refine ⟨_, rfl, ?_⟩
  refine hK.out _ _ (KW.out) (fun hHeld => ?_)
  clear hK K
  refine norm_ (a' := ?_) ?_ ?_
  rotate_left
  · show Act.put _ (some 61) _ = _
    simp only [Act.put, List.setIfInBounds_toArray, List.set_cons_zero, List.set_cons_succ, i64_w, i32_w]
    rfl
  refine done_ (done_of HT_.out (by as_aux_lemma => kernel_rfl)) ?_
  go_wp2
  have eq_ : lineR 1 m c0 = (c4, { m with sub := c0.wordV, words := c2.wordsV 1 }) := by
    simp only [lineR, ansR, eventsR, logsR, nameR, Rd.bind, Rd.byte, Rd.word, Rd.bytes, Rd.words, Rd.need, Rd.ret, leftR, ← Ec1.out, ← Ec2.out]
    rw [if_neg HZ.out]
    simp only [ansR, eventsR, logsR, nameR, Rd.bind, Rd.byte, Rd.word, Rd.bytes, Rd.words, Rd.need, Rd.ret, leftR, ← Ec3.out, ← Ec4.out]
  rw [eq_]
  exact bodyPost_ret (results_none rfl _ _ _) rfl (⟨rfl, HP.out⟩)
theorem line_1 {w0 w : World} {gr g gm : Nat} {c0 : Cu} {m : Msg} (h : PS.St w0 gr g gm w c0 m) : Calls Try.prog 21 #[.int .i64 1, .pointer (some ⟨g, 0, none⟩), .pointer (some ⟨gm, 0, none⟩)] w fun en w' => en = .returned (.tuple #[]) ∧ PS.St w0 gr g gm w' (lineR 1 m c0).1 (lineR 1 m c0).2 := by
  by_cases hz : c0.wordV = 0
  · exact line_1_e h hz
  by_cases ho : ((c0.wordS.need (subB c0.wordV && ((1 : Int) == 0 || c0.wordV != 4)) 8).wordsV 1).length = 1
  · exact line_1_1 h hz ho
  · exact line_1_0 h hz ho
end Go.Proofs.Ytalaochocmcbcaa.Diag
end
