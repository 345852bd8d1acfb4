/- The reference's Same tells whether two messages are one (sameB): a plain field differs. Conditions: numbers of their kind. -/
import Derived.Test.YtbilolgiihegiaaRefSA
set_option linter.unusedVariables false
set_option linter.unusedSimpArgs false
namespace Go.Proofs.Ytbilolgiihegiaa.Same
open Go.RowKit Go.Proofs.Ytbilolgiihegiaa.P Go.Proofs.Ytbilolgiihegiaa.E Go.Proofs.YtbilolgiihegiaaW.PrintWords Go.Proofs.YtbilolgiihegiaaW.PrintLast Go.Proofs.YtbilolgiihegiaaW.PrintMore
set_option maxHeartbeats 4000000 in
set_option maxRecDepth 100000 in
theorem ref_diff (x y : Msg) (Ax12 : Option Addr) (cx12 : Nat) (Ax13 : Option Addr) (cx13 : Nat) (Ax14 : Option Addr) (cx14 : Nat) (Ax15 : Option Addr) (cx15 : Nat) (Ax21 : Option Addr) (cx21 : Nat) (Ay12 : Option Addr) (cy12 : Nat) (Ay13 : Option Addr) (cy13 : Nat) (Ay14 : Option Addr) (cy14 : Nat) (Ay15 : Option Addr) (cy15 : Nat) (Ay21 : Option Addr) (cy21 : Nat) (w : World) (hp : plainB x y = false) :
    Calls Try.prog 10 #[.agg #[.int .u8 x.code, .int .u8 x.fail, .int .u16 x.addr, .int .u16 x.count, .int .u16 x.value, .int .u16 x.and_, .int .u16 x.or_, .int .u16 x.addr2, .int .u16 x.sub, .int .u16 x.status, .int .u16 x.events, .int .u16 x.messages, .slice Ax12 x.words.length cx12, .slice Ax13 x.bits.length cx13, .slice Ax14 x.data.length cx14, .slice Ax15 x.recs.length cx15, .int .u8 x.mei, .int .u8 x.kind, .int .u8 x.level, .int .u8 x.more, .int .u8 x.next, .slice Ax21 x.objects.length cx21], .agg #[.int .u8 y.code, .int .u8 y.fail, .int .u16 y.addr, .int .u16 y.count, .int .u16 y.value, .int .u16 y.and_, .int .u16 y.or_, .int .u16 y.addr2, .int .u16 y.sub, .int .u16 y.status, .int .u16 y.events, .int .u16 y.messages, .slice Ay12 y.words.length cy12, .slice Ay13 y.bits.length cy13, .slice Ay14 y.data.length cy14, .slice Ay15 y.recs.length cy15, .int .u8 y.mei, .int .u8 y.kind, .int .u8 y.level, .int .u8 y.more, .int .u8 y.next, .slice Ay21 y.objects.length cy21]] w fun e w' => e = .returned (.bool false) ∧ Below w.heap.size w w' := by
  have hu1 := Try.underlying30
  go_enter Try.func10, Try.ntmps10
  go_upto_region 1 with (fail)
  obtain ⟨wc, hwc⟩ : ∃ wc, wc = ((w.alloc (.cells (#[.int .u8 x.code, .int .u8 x.fail, .int .u16 x.addr, .int .u16 x.count, .int .u16 x.value, .int .u16 x.and_, .int .u16 x.or_, .int .u16 x.addr2, .int .u16 x.sub, .int .u16 x.status, .int .u16 x.events, .int .u16 x.messages, .slice Ax12 x.words.length cx12, .slice Ax13 x.bits.length cx13, .slice Ax14 x.data.length cx14, .slice Ax15 x.recs.length cx15, .int .u8 x.mei, .int .u8 x.kind, .int .u8 x.level, .int .u8 x.more, .int .u8 x.next, .slice Ax21 x.objects.length cx21] : Array Value) 30)).alloc (.cells (#[.int .u8 y.code, .int .u8 y.fail, .int .u16 y.addr, .int .u16 y.count, .int .u16 y.value, .int .u16 y.and_, .int .u16 y.or_, .int .u16 y.addr2, .int .u16 y.sub, .int .u16 y.status, .int .u16 y.events, .int .u16 y.messages, .slice Ay12 y.words.length cy12, .slice Ay13 y.bits.length cy13, .slice Ay14 y.data.length cy14, .slice Ay15 y.recs.length cy15, .int .u8 y.mei, .int .u8 y.kind, .int .u8 y.level, .int .u8 y.more, .int .u8 y.next, .slice Ay21 y.objects.length cy21] : Array Value) 30)) := ⟨_, rfl⟩
  rw [← hwc]
  have px0 : wc.cell? ⟨w.heap.size, 0, none⟩ = some (.int .u8 x.code) := by rw [hwc]; exact box_x0 _ _ _ _ 0
  have py0 : wc.cell? ⟨w.heap.size + 1, 0, none⟩ = some (.int .u8 y.code) := by rw [hwc]; exact box_y0 _ _ _ _ 0
  have px1 : wc.cell? ⟨w.heap.size, 1, none⟩ = some (.int .u8 x.fail) := by rw [hwc]; exact box_x0 _ _ _ _ 1
  have py1 : wc.cell? ⟨w.heap.size + 1, 1, none⟩ = some (.int .u8 y.fail) := by rw [hwc]; exact box_y0 _ _ _ _ 1
  have px2 : wc.cell? ⟨w.heap.size, 2, none⟩ = some (.int .u16 x.addr) := by rw [hwc]; exact box_x0 _ _ _ _ 2
  have py2 : wc.cell? ⟨w.heap.size + 1, 2, none⟩ = some (.int .u16 y.addr) := by rw [hwc]; exact box_y0 _ _ _ _ 2
  have px3 : wc.cell? ⟨w.heap.size, 3, none⟩ = some (.int .u16 x.count) := by rw [hwc]; exact box_x0 _ _ _ _ 3
  have py3 : wc.cell? ⟨w.heap.size + 1, 3, none⟩ = some (.int .u16 y.count) := by rw [hwc]; exact box_y0 _ _ _ _ 3
  have px4 : wc.cell? ⟨w.heap.size, 4, none⟩ = some (.int .u16 x.value) := by rw [hwc]; exact box_x0 _ _ _ _ 4
  have py4 : wc.cell? ⟨w.heap.size + 1, 4, none⟩ = some (.int .u16 y.value) := by rw [hwc]; exact box_y0 _ _ _ _ 4
  have px5 : wc.cell? ⟨w.heap.size, 5, none⟩ = some (.int .u16 x.and_) := by rw [hwc]; exact box_x0 _ _ _ _ 5
  have py5 : wc.cell? ⟨w.heap.size + 1, 5, none⟩ = some (.int .u16 y.and_) := by rw [hwc]; exact box_y0 _ _ _ _ 5
  have px6 : wc.cell? ⟨w.heap.size, 6, none⟩ = some (.int .u16 x.or_) := by rw [hwc]; exact box_x0 _ _ _ _ 6
  have py6 : wc.cell? ⟨w.heap.size + 1, 6, none⟩ = some (.int .u16 y.or_) := by rw [hwc]; exact box_y0 _ _ _ _ 6
  have px7 : wc.cell? ⟨w.heap.size, 7, none⟩ = some (.int .u16 x.addr2) := by rw [hwc]; exact box_x0 _ _ _ _ 7
  have py7 : wc.cell? ⟨w.heap.size + 1, 7, none⟩ = some (.int .u16 y.addr2) := by rw [hwc]; exact box_y0 _ _ _ _ 7
  have px8 : wc.cell? ⟨w.heap.size, 8, none⟩ = some (.int .u16 x.sub) := by rw [hwc]; exact box_x0 _ _ _ _ 8
  have py8 : wc.cell? ⟨w.heap.size + 1, 8, none⟩ = some (.int .u16 y.sub) := by rw [hwc]; exact box_y0 _ _ _ _ 8
  have px9 : wc.cell? ⟨w.heap.size, 9, none⟩ = some (.int .u16 x.status) := by rw [hwc]; exact box_x0 _ _ _ _ 9
  have py9 : wc.cell? ⟨w.heap.size + 1, 9, none⟩ = some (.int .u16 y.status) := by rw [hwc]; exact box_y0 _ _ _ _ 9
  have px10 : wc.cell? ⟨w.heap.size, 10, none⟩ = some (.int .u16 x.events) := by rw [hwc]; exact box_x0 _ _ _ _ 10
  have py10 : wc.cell? ⟨w.heap.size + 1, 10, none⟩ = some (.int .u16 y.events) := by rw [hwc]; exact box_y0 _ _ _ _ 10
  have px11 : wc.cell? ⟨w.heap.size, 11, none⟩ = some (.int .u16 x.messages) := by rw [hwc]; exact box_x0 _ _ _ _ 11
  have py11 : wc.cell? ⟨w.heap.size + 1, 11, none⟩ = some (.int .u16 y.messages) := by rw [hwc]; exact box_y0 _ _ _ _ 11
  have px16 : wc.cell? ⟨w.heap.size, 16, none⟩ = some (.int .u8 x.mei) := by rw [hwc]; exact box_x0 _ _ _ _ 16
  have py16 : wc.cell? ⟨w.heap.size + 1, 16, none⟩ = some (.int .u8 y.mei) := by rw [hwc]; exact box_y0 _ _ _ _ 16
  have px17 : wc.cell? ⟨w.heap.size, 17, none⟩ = some (.int .u8 x.kind) := by rw [hwc]; exact box_x0 _ _ _ _ 17
  have py17 : wc.cell? ⟨w.heap.size + 1, 17, none⟩ = some (.int .u8 y.kind) := by rw [hwc]; exact box_y0 _ _ _ _ 17
  have px18 : wc.cell? ⟨w.heap.size, 18, none⟩ = some (.int .u8 x.level) := by rw [hwc]; exact box_x0 _ _ _ _ 18
  have py18 : wc.cell? ⟨w.heap.size + 1, 18, none⟩ = some (.int .u8 y.level) := by rw [hwc]; exact box_y0 _ _ _ _ 18
  have px19 : wc.cell? ⟨w.heap.size, 19, none⟩ = some (.int .u8 x.more) := by rw [hwc]; exact box_x0 _ _ _ _ 19
  have py19 : wc.cell? ⟨w.heap.size + 1, 19, none⟩ = some (.int .u8 y.more) := by rw [hwc]; exact box_y0 _ _ _ _ 19
  have px20 : wc.cell? ⟨w.heap.size, 20, none⟩ = some (.int .u8 x.next) := by rw [hwc]; exact box_x0 _ _ _ _ 20
  have py20 : wc.cell? ⟨w.heap.size + 1, 20, none⟩ = some (.int .u8 y.next) := by rw [hwc]; exact box_y0 _ _ _ _ 20
  have hB : Below w.heap.size w wc := by rw [hwc]; exact ((Below.refl _ _).alloc (Nat.le_refl _) _).alloc (by simp) _
  have HB := Aside0.mk hB
  clear hB hwc
  refine wp_region_list ?_
  refine reg1_any x y  w wc _ _ px0 py0 px1 py1 px2 py2 px3 py3 px4 py4 px5 py5 px6 py6 px7 py7 px8 py8 px9 py9 px10 py10 px11 py11 (by rfl) rfl rfl ?_
  intro a1 z1 f1 x1 y1 s1
  cases v1 : ((x.code != y.code) || (x.fail != y.fail) || (x.addr != y.addr) || (x.count != y.count) || (x.value != y.value) || (x.and_ != y.and_) || (x.or_ != y.or_) || (x.addr2 != y.addr2) || (x.sub != y.sub) || (x.status != y.status) || (x.events != y.events) || (x.messages != y.messages)) with
  | true =>
    rw [v1] at s1
    obtain ⟨t1, q1⟩ := a1
    have f1n : q1 = [] := f1
    clear f1
    subst f1n
    have g1 : t1.getD 95 undef = .bool true := by rw [Array.getD_eq_getD_getElem?, s1]; rfl
    go_wp2
    refine wp_cond_true (show t1.getD 95 undef = _ from g1) ?_
    go_wp2
    exact bodyPost_ret (v := .bool false) (by simp [results, Try.results10, go_sem, *]) rfl ⟨rfl, HB.out⟩ -- t1.setIfInBounds 4 (.bool false)
  | false =>
    rw [v1] at s1
    obtain ⟨t1, q1⟩ := a1
    have f1n : q1 = [] := f1
    clear f1
    subst f1n
    have g1 : t1.getD 95 undef = .bool false := by rw [Array.getD_eq_getD_getElem?, s1]; rfl
    go_wp2
    refine wp_cond_false (show t1.getD 95 undef = _ from g1) ?_
    go_upto_region 3 with (fail)
    refine wp_region_list ?_
    refine reg3_any x y w wc _ _ px16 py16 px17 py17 px18 py18 px19 py19 px20 py20 z1 x1 y1 ?_
    intro a2 z2 f2 x2 y2 s2
    have v2 : ((x.mei != y.mei) || (x.kind != y.kind) || (x.level != y.level) || (x.more != y.more) || (x.next != y.next)) = true := by
      simp only [Bool.or_eq_false_iff] at v1
      cases hv : ((x.mei != y.mei) || (x.kind != y.kind) || (x.level != y.level) || (x.more != y.more) || (x.next != y.next)) with
      | true => rfl
      | false =>
        simp only [Bool.or_eq_false_iff] at hv
        exfalso
        unfold plainB at hp
        simp only [bne_eq_false_iff_eq] at v1 hv
        simp [v1, hv] at hp
    rw [v2] at s2
    obtain ⟨t2, q2⟩ := a2
    have f2n : q2 = [] := f2
    clear f2
    subst f2n
    have g2 : t2.getD 128 undef = .bool true := by rw [Array.getD_eq_getD_getElem?, s2]; rfl
    go_wp2
    refine wp_cond_true (show t2.getD 128 undef = _ from g2) ?_
    go_wp2
    exact bodyPost_ret (v := .bool false) (by simp [results, Try.results10, go_sem, *]) rfl ⟨rfl, HB.out⟩ -- t2
end Go.Proofs.Ytbilolgiihegiaa.Same
