/- The reference's Same tells whether two messages are one (sameB): no plain field differs. Conditions: numbers of their kind. -/
import Derived.Test.YtbilolgiihegiaaRefSA
set_option linter.unusedVariables false
set_option linter.unusedSimpArgs false
namespace Go.Proofs.Ytbilolgiihegiaa.Same
open Go.RowKit Go.Proofs.Ytbilolgiihegiaa.P Go.Proofs.Ytbilolgiihegiaa.E Go.Proofs.YtbilolgiihegiaaW.PrintWords Go.Proofs.YtbilolgiihegiaaW.PrintLast Go.Proofs.YtbilolgiihegiaaW.PrintMore

def refs.T21 : Bool × List (List Nat × List Nat) := (true, [([], []), ([0], [0]), ([], []), ([1, 2], [1, 2]), ([3], [3]), ([4], [4]), ([], []), ([6], [6]), ([], []), ([7, 8], [7, 8]), ([9], [9]), ([10], [10]), ([5, 11], [5, 11]), ([12, 12, 0, 1, 2, 3, 4, 5, 6, 7, 8, 9, 10, 11, 12], [12])])
def refs.B21 : List Nat := [0, 1, 0, 7, 15, 31, 0, 64, 0, 448, 960, 1984, 4095, 8191]
theorem refs.tab21 : rtab .any (opsOf Try.f10 21) = refs.T21 := by kernel_rfl
theorem refs.bits21 : waitsOk refs.T21.2 refs.B21 = true := by kernel_rfl
def refs.T22 : Bool × List (List Nat × List Nat) := (true, [([], []), ([0], [0]), ([1], [1]), ([2], [2]), ([3, 2], [2, 3]), ([2], [2]), ([4, 5, 2], [2, 4, 5]), ([6, 2], [2, 6]), ([7, 2], [2, 7]), ([2], [2]), ([9, 2], [2, 9]), ([2], [2]), ([10, 11, 2], [2, 10, 11]), ([12, 2], [2, 12]), ([13, 2], [2, 13]), ([8, 14, 2], [2, 8, 14]), ([2, 15], [2, 15])])
def refs.B22 : List Nat := [0, 1, 3, 7, 15, 7, 63, 127, 255, 7, 519, 7, 3591, 7687, 15879, 32767, 65535]
theorem refs.tab22 : rtab .any (opsOf Try.f10 22) = refs.T22 := by kernel_rfl
theorem refs.bits22 : waitsOk refs.T22.2 refs.B22 = true := by kernel_rfl
set_option maxHeartbeats 4000000 in
set_option maxRecDepth 100000 in
theorem ref_eq (x y : Msg) (Ax12 : Option Addr) (cx12 : Nat) (Ax13 : Option Addr) (cx13 : Nat) (Ax14 : Option Addr) (cx14 : Nat) (Ax15 : Option Addr) (cx15 : Nat) (Ax21 : Option Addr) (cx21 : Nat) (Ay12 : Option Addr) (cy12 : Nat) (Ay13 : Option Addr) (cy13 : Nat) (Ay14 : Option Addr) (cy14 : Nat) (Ay15 : Option Addr) (cy15 : Nat) (Ay21 : Option Addr) (cy21 : Nat) (w : World) (hrx12 : Kd.C (Kd.int .u16) w Ax12 x.words.length x.words) (hcx12 : x.words.length ≤ cx12) (hrx13 : Kd.C Kd.bool w Ax13 x.bits.length x.bits) (hcx13 : x.bits.length ≤ cx13) (hrx14 : Kd.C (Kd.int .u8) w Ax14 x.data.length x.data) (hcx14 : x.data.length ≤ cx14) (hrx15 : Kd.C k50 w Ax15 x.recs.length x.recs) (hcx15 : x.recs.length ≤ cx15) (hrx21 : Kd.C k52 w Ax21 x.objects.length x.objects) (hcx21 : x.objects.length ≤ cx21) (hry12 : Kd.C (Kd.int .u16) w Ay12 y.words.length y.words) (hcy12 : y.words.length ≤ cy12) (hry13 : Kd.C Kd.bool w Ay13 y.bits.length y.bits) (hcy13 : y.bits.length ≤ cy13) (hry14 : Kd.C (Kd.int .u8) w Ay14 y.data.length y.data) (hcy14 : y.data.length ≤ cy14) (hry15 : Kd.C k50 w Ay15 y.recs.length y.recs) (hcy15 : y.recs.length ≤ cy15) (hry21 : Kd.C k52 w Ay21 y.objects.length y.objects) (hcy21 : y.objects.length ≤ cy21) (e0 : (x.code != y.code) = false) (e1 : (x.fail != y.fail) = false) (e2 : (x.addr != y.addr) = false) (e3 : (x.count != y.count) = false) (e4 : (x.value != y.value) = false) (e5 : (x.and_ != y.and_) = false) (e6 : (x.or_ != y.or_) = false) (e7 : (x.addr2 != y.addr2) = false) (e8 : (x.sub != y.sub) = false) (e9 : (x.status != y.status) = false) (e10 : (x.events != y.events) = false) (e11 : (x.messages != y.messages) = false) (e16 : (x.mei != y.mei) = false) (e17 : (x.kind != y.kind) = false) (e18 : (x.level != y.level) = false) (e19 : (x.more != y.more) = false) (e20 : (x.next != y.next) = false) (ox_ : ∀ q ∈ x.objects, q.f1.all u8B = true) (oy_ : ∀ q ∈ y.objects, q.f1.all u8B = true) (b1 b2 b3 : Bool) (k1 k2 : Nat) (p1 : busbarref01_Words.f k1 x.words y.words = some b1) (p2 : busbarref01_Bools.f k2 x.bits y.bits = some b2) (p3 : busbarref01_Same.f x.data y.data = some b3) :
    Calls Try.prog 10 #[.agg #[.int .u8 x.code, .int .u8 x.fail, .int .u16 x.addr, .int .u16 x.count, .int .u16 x.value, .int .u16 x.and_, .int .u16 x.or_, .int .u16 x.addr2, .int .u16 x.sub, .int .u16 x.status, .int .u16 x.events, .int .u16 x.messages, .slice Ax12 x.words.length cx12, .slice Ax13 x.bits.length cx13, .slice Ax14 x.data.length cx14, .slice Ax15 x.recs.length cx15, .int .u8 x.mei, .int .u8 x.kind, .int .u8 x.level, .int .u8 x.more, .int .u8 x.next, .slice Ax21 x.objects.length cx21], .agg #[.int .u8 y.code, .int .u8 y.fail, .int .u16 y.addr, .int .u16 y.count, .int .u16 y.value, .int .u16 y.and_, .int .u16 y.or_, .int .u16 y.addr2, .int .u16 y.sub, .int .u16 y.status, .int .u16 y.events, .int .u16 y.messages, .slice Ay12 y.words.length cy12, .slice Ay13 y.bits.length cy13, .slice Ay14 y.data.length cy14, .slice Ay15 y.recs.length cy15, .int .u8 y.mei, .int .u8 y.kind, .int .u8 y.level, .int .u8 y.more, .int .u8 y.next, .slice Ay21 y.objects.length cy21]] w fun e w' => e = .returned (.bool (b1 && b2 && b3 && listB recB x.recs y.recs && listB objB x.objects y.objects)) ∧ Below w.heap.size w w' := by
  have hu1 := Try.underlying30
  go_enter Try.func10, Try.ntmps10
  go_upto_region 1 with (fail)
  obtain ⟨wc, hwc⟩ : ∃ wc, wc = ((w.alloc (.cells (#[.int .u8 x.code, .int .u8 x.fail, .int .u16 x.addr, .int .u16 x.count, .int .u16 x.value, .int .u16 x.and_, .int .u16 x.or_, .int .u16 x.addr2, .int .u16 x.sub, .int .u16 x.status, .int .u16 x.events, .int .u16 x.messages, .slice Ax12 x.words.length cx12, .slice Ax13 x.bits.length cx13, .slice Ax14 x.data.length cx14, .slice Ax15 x.recs.length cx15, .int .u8 x.mei, .int .u8 x.kind, .int .u8 x.level, .int .u8 x.more, .int .u8 x.next, .slice Ax21 x.objects.length cx21] : Array Value) 30)).alloc (.cells (#[.int .u8 y.code, .int .u8 y.fail, .int .u16 y.addr, .int .u16 y.count, .int .u16 y.value, .int .u16 y.and_, .int .u16 y.or_, .int .u16 y.addr2, .int .u16 y.sub, .int .u16 y.status, .int .u16 y.events, .int .u16 y.messages, .slice Ay12 y.words.length cy12, .slice Ay13 y.bits.length cy13, .slice Ay14 y.data.length cy14, .slice Ay15 y.recs.length cy15, .int .u8 y.mei, .int .u8 y.kind, .int .u8 y.level, .int .u8 y.more, .int .u8 y.next, .slice Ay21 y.objects.length cy21] : Array Value) 30)) := ⟨_, rfl⟩
  rw [← hwc]
  have px0 : wc.cell? ⟨w.heap.size, 0, none⟩ = some (.int .u8 x.code) := by rw [hwc]; exact box_x0 _ _ _ _ 0
  have py0 : wc.cell? ⟨w.heap.size + 1, 0, none⟩ = some (.int .u8 y.code) := by rw [hwc]; exact box_y0 _ _ _ _ 0
  have px1 : wc.cell? ⟨w.heap.size, 1, none⟩ = some (.int .u8 x.fail) := by rw [hwc]; exact box_x0 _ _ _ _ 1
  have py1 : wc.cell? ⟨w.heap.size + 1, 1, none⟩ = some (.int .u8 y.fail) := by rw [hwc]; exact box_y0 _ _ _ _ 1
  have px2 : wc.cell? ⟨w.heap.size, 2, none⟩ = some (.int .u16 x.addr) := by rw [hwc]; exact box_x0 _ _ _ _ 2
  have py2 : wc.cell? ⟨w.heap.size + 1, 2, none⟩ = some (.int .u16 y.addr) := by rw [hwc]; exact box_y0 _ _ _ _ 2
  have px3 : wc.cell? ⟨w.heap.size, 3, none⟩ = some (.int .u16 x.count) := by rw [hwc]; exact box_x0 _ _ _ _ 3
  have py3 : wc.cell? ⟨w.heap.size + 1, 3, none⟩ = some (.int .u16 y.count) := by rw [hwc]; exact box_y0 _ _ _ _ 3
  have px4 : wc.cell? ⟨w.heap.size, 4, none⟩ = some (.int .u16 x.value) := by rw [hwc]; exact box_x0 _ _ _ _ 4
  have py4 : wc.cell? ⟨w.heap.size + 1, 4, none⟩ = some (.int .u16 y.value) := by rw [hwc]; exact box_y0 _ _ _ _ 4
  have px5 : wc.cell? ⟨w.heap.size, 5, none⟩ = some (.int .u16 x.and_) := by rw [hwc]; exact box_x0 _ _ _ _ 5
  have py5 : wc.cell? ⟨w.heap.size + 1, 5, none⟩ = some (.int .u16 y.and_) := by rw [hwc]; exact box_y0 _ _ _ _ 5
  have px6 : wc.cell? ⟨w.heap.size, 6, none⟩ = some (.int .u16 x.or_) := by rw [hwc]; exact box_x0 _ _ _ _ 6
  have py6 : wc.cell? ⟨w.heap.size + 1, 6, none⟩ = some (.int .u16 y.or_) := by rw [hwc]; exact box_y0 _ _ _ _ 6
  have px7 : wc.cell? ⟨w.heap.size, 7, none⟩ = some (.int .u16 x.addr2) := by rw [hwc]; exact box_x0 _ _ _ _ 7
  have py7 : wc.cell? ⟨w.heap.size + 1, 7, none⟩ = some (.int .u16 y.addr2) := by rw [hwc]; exact box_y0 _ _ _ _ 7
  have px8 : wc.cell? ⟨w.heap.size, 8, none⟩ = some (.int .u16 x.sub) := by rw [hwc]; exact box_x0 _ _ _ _ 8
  have py8 : wc.cell? ⟨w.heap.size + 1, 8, none⟩ = some (.int .u16 y.sub) := by rw [hwc]; exact box_y0 _ _ _ _ 8
  have px9 : wc.cell? ⟨w.heap.size, 9, none⟩ = some (.int .u16 x.status) := by rw [hwc]; exact box_x0 _ _ _ _ 9
  have py9 : wc.cell? ⟨w.heap.size + 1, 9, none⟩ = some (.int .u16 y.status) := by rw [hwc]; exact box_y0 _ _ _ _ 9
  have px10 : wc.cell? ⟨w.heap.size, 10, none⟩ = some (.int .u16 x.events) := by rw [hwc]; exact box_x0 _ _ _ _ 10
  have py10 : wc.cell? ⟨w.heap.size + 1, 10, none⟩ = some (.int .u16 y.events) := by rw [hwc]; exact box_y0 _ _ _ _ 10
  have px11 : wc.cell? ⟨w.heap.size, 11, none⟩ = some (.int .u16 x.messages) := by rw [hwc]; exact box_x0 _ _ _ _ 11
  have py11 : wc.cell? ⟨w.heap.size + 1, 11, none⟩ = some (.int .u16 y.messages) := by rw [hwc]; exact box_y0 _ _ _ _ 11
  have px12 : wc.cell? ⟨w.heap.size, 12, none⟩ = some (.slice Ax12 x.words.length cx12) := by rw [hwc]; exact box_x0 _ _ _ _ 12
  have py12 : wc.cell? ⟨w.heap.size + 1, 12, none⟩ = some (.slice Ay12 y.words.length cy12) := by rw [hwc]; exact box_y0 _ _ _ _ 12
  have px13 : wc.cell? ⟨w.heap.size, 13, none⟩ = some (.slice Ax13 x.bits.length cx13) := by rw [hwc]; exact box_x0 _ _ _ _ 13
  have py13 : wc.cell? ⟨w.heap.size + 1, 13, none⟩ = some (.slice Ay13 y.bits.length cy13) := by rw [hwc]; exact box_y0 _ _ _ _ 13
  have px14 : wc.cell? ⟨w.heap.size, 14, none⟩ = some (.slice Ax14 x.data.length cx14) := by rw [hwc]; exact box_x0 _ _ _ _ 14
  have py14 : wc.cell? ⟨w.heap.size + 1, 14, none⟩ = some (.slice Ay14 y.data.length cy14) := by rw [hwc]; exact box_y0 _ _ _ _ 14
  have px15 : wc.cell? ⟨w.heap.size, 15, none⟩ = some (.slice Ax15 x.recs.length cx15) := by rw [hwc]; exact box_x0 _ _ _ _ 15
  have py15 : wc.cell? ⟨w.heap.size + 1, 15, none⟩ = some (.slice Ay15 y.recs.length cy15) := by rw [hwc]; exact box_y0 _ _ _ _ 15
  have px16 : wc.cell? ⟨w.heap.size, 16, none⟩ = some (.int .u8 x.mei) := by rw [hwc]; exact box_x0 _ _ _ _ 16
  have py16 : wc.cell? ⟨w.heap.size + 1, 16, none⟩ = some (.int .u8 y.mei) := by rw [hwc]; exact box_y0 _ _ _ _ 16
  have px17 : wc.cell? ⟨w.heap.size, 17, none⟩ = some (.int .u8 x.kind) := by rw [hwc]; exact box_x0 _ _ _ _ 17
  have py17 : wc.cell? ⟨w.heap.size + 1, 17, none⟩ = some (.int .u8 y.kind) := by rw [hwc]; exact box_y0 _ _ _ _ 17
  have px18 : wc.cell? ⟨w.heap.size, 18, none⟩ = some (.int .u8 x.level) := by rw [hwc]; exact box_x0 _ _ _ _ 18
  have py18 : wc.cell? ⟨w.heap.size + 1, 18, none⟩ = some (.int .u8 y.level) := by rw [hwc]; exact box_y0 _ _ _ _ 18
  have px19 : wc.cell? ⟨w.heap.size, 19, none⟩ = some (.int .u8 x.more) := by rw [hwc]; exact box_x0 _ _ _ _ 19
  have py19 : wc.cell? ⟨w.heap.size + 1, 19, none⟩ = some (.int .u8 y.more) := by rw [hwc]; exact box_y0 _ _ _ _ 19
  have px20 : wc.cell? ⟨w.heap.size, 20, none⟩ = some (.int .u8 x.next) := by rw [hwc]; exact box_x0 _ _ _ _ 20
  have py20 : wc.cell? ⟨w.heap.size + 1, 20, none⟩ = some (.int .u8 y.next) := by rw [hwc]; exact box_y0 _ _ _ _ 20
  have px21 : wc.cell? ⟨w.heap.size, 21, none⟩ = some (.slice Ax21 x.objects.length cx21) := by rw [hwc]; exact box_x0 _ _ _ _ 21
  have py21 : wc.cell? ⟨w.heap.size + 1, 21, none⟩ = some (.slice Ay21 y.objects.length cy21) := by rw [hwc]; exact box_y0 _ _ _ _ 21
  have hB : Below w.heap.size w wc := by rw [hwc]; exact ((Below.refl _ _).alloc (Nat.le_refl _) _).alloc (by simp) _
  have HB := Aside0.mk hB
  clear hB hwc
  have HRx12 := Aside0.mk hrx12
  have HRx13 := Aside0.mk hrx13
  have HRx14 := Aside0.mk hrx14
  have HRx15 := Aside0.mk hrx15
  have HRx21 := Aside0.mk hrx21
  have HRy12 := Aside0.mk hry12
  have HRy13 := Aside0.mk hry13
  have HRy14 := Aside0.mk hry14
  have HRy15 := Aside0.mk hry15
  have HRy21 := Aside0.mk hry21
  clear hrx12 hrx13 hrx14 hrx15 hrx21 hry12 hry13 hry14 hry15 hry21
  have ox := Aside0.mk ox_
  have oy := Aside0.mk oy_
  clear ox_ oy_
  have P1 := Aside0.mk p1
  have P2 := Aside0.mk p2
  have P3 := Aside0.mk p3
  clear p1 p2 p3
  refine wp_region_list ?_
  refine sd_hideQ fun Q' hQ' => ?_
  show SD _ (opsOf Try.f10 1) _ (rops1.drop 0) _ _
  refine sd_val (N := (some 14)) (v := ?_) (a' := ?_) 0 rops1_0 rfl rfl ?_ ?_ ?_
  rotate_left 2
  · go_simp
    with_reducible rfl
  · simp only [Act.put, List.setIfInBounds_toArray, List.set_cons_zero, List.set_cons_succ, i64_w, i32_w]
    rfl
  refine sd_val (N := (some 15)) (v := ?_) (a' := ?_) 1 rops1_1 rfl rfl ?_ ?_ ?_
  rotate_left 2
  · go_simp
    with_reducible rfl
  · simp only [Act.put, List.setIfInBounds_toArray, List.set_cons_zero, List.set_cons_succ, i64_w, i32_w]
    rfl
  refine sd_val (N := (some 16)) (v := ?_) (a' := ?_) 2 rops1_2 rfl rfl ?_ ?_ ?_
  rotate_left 2
  · go_simp
    with_reducible rfl
  · simp only [Act.put, List.setIfInBounds_toArray, List.set_cons_zero, List.set_cons_succ, i64_w, i32_w]
    rfl
  refine sd_val (N := (some 17)) (v := ?_) (a' := ?_) 3 rops1_3 rfl rfl ?_ ?_ ?_
  rotate_left 2
  · go_simp
    with_reducible rfl
  · simp only [Act.put, List.setIfInBounds_toArray, List.set_cons_zero, List.set_cons_succ, i64_w, i32_w]
    rfl
  refine sd_val (N := (some 18)) (v := ?_) (a' := ?_) 4 rops1_4 rfl rfl ?_ ?_ ?_
  rotate_left 2
  · go_simp
    with_reducible rfl
  · simp only [Act.put, List.setIfInBounds_toArray, List.set_cons_zero, List.set_cons_succ, i64_w, i32_w]
    rfl
  refine sd_val (N := (some 19)) (v := ?_) (a' := ?_) 5 rops1_5 rfl rfl ?_ ?_ ?_
  rotate_left 2
  · go_simp
    with_reducible rfl
  · simp only [Act.put, List.setIfInBounds_toArray, List.set_cons_zero, List.set_cons_succ, i64_w, i32_w]
    rfl
  refine sd_gate (N := (some 20)) (v := ?_) (a' := ?_) 6 5 19 false false rfl rops1_6 rops1_5 rfl rfl rfl rfl rfl ?_ ?_ ?_
  rotate_left 2
  · go_simp
    with_reducible rfl
  · simp only [Act.put, List.setIfInBounds_toArray, List.set_cons_zero, List.set_cons_succ, i64_w, i32_w]
    rfl
  refine sd_gate (N := (some 21)) (v := ?_) (a' := ?_) 7 5 19 false false rfl rops1_7 rops1_5 rfl rfl rfl rfl rfl ?_ ?_ ?_
  rotate_left 2
  · go_simp
    with_reducible rfl
  · simp only [Act.put, List.setIfInBounds_toArray, List.set_cons_zero, List.set_cons_succ, i64_w, i32_w]
    rfl
  refine sd_gate (N := (some 22)) (v := ?_) (a' := ?_) 8 5 19 false false rfl rops1_8 rops1_5 rfl rfl rfl rfl rfl ?_ ?_ ?_
  rotate_left 2
  · go_simp
    with_reducible rfl
  · simp only [Act.put, List.setIfInBounds_toArray, List.set_cons_zero, List.set_cons_succ, i64_w, i32_w]
    rfl
  refine sd_gate (N := (some 23)) (v := ?_) (a' := ?_) 9 5 19 false false rfl rops1_9 rops1_5 rfl rfl rfl rfl rfl ?_ ?_ ?_
  rotate_left 2
  · go_simp
    with_reducible rfl
  · simp only [Act.put, List.setIfInBounds_toArray, List.set_cons_zero, List.set_cons_succ, i64_w, i32_w]
    rfl
  refine sd_gate (N := (some 24)) (v := ?_) (a' := ?_) 10 5 19 false false rfl rops1_10 rops1_5 rfl rfl rfl rfl rfl ?_ ?_ ?_
  rotate_left 2
  · go_simp
    with_reducible rfl
  · simp only [Act.put, List.setIfInBounds_toArray, List.set_cons_zero, List.set_cons_succ, i64_w, i32_w]
    rfl
  refine sd_val (N := (some 25)) (v := ?_) (a' := ?_) 11 rops1_11 rfl rfl ?_ ?_ ?_
  rotate_left 2
  · go_simp
    with_reducible rfl
  · simp only [Act.put, List.setIfInBounds_toArray, List.set_cons_zero, List.set_cons_succ, i64_w, i32_w]
    rfl
  refine sd_val (N := (some 26)) (v := ?_) (a' := ?_) 12 rops1_12 rfl rfl ?_ ?_ ?_
  rotate_left 2
  · go_simp
    with_reducible rfl
  · simp only [Act.put, List.setIfInBounds_toArray, List.set_cons_zero, List.set_cons_succ, i64_w, i32_w]
    rfl
  refine sd_gate (N := (some 27)) (v := ?_) (a' := ?_) 13 12 26 false false rfl rops1_13 rops1_12 rfl rfl rfl rfl rfl ?_ ?_ ?_
  rotate_left 2
  · go_simp
    with_reducible rfl
  · simp only [Act.put, List.setIfInBounds_toArray, List.set_cons_zero, List.set_cons_succ, i64_w, i32_w]
    rfl
  refine sd_gate (N := (some 28)) (v := ?_) (a' := ?_) 14 12 26 false false rfl rops1_14 rops1_12 rfl rfl rfl rfl rfl ?_ ?_ ?_
  rotate_left 2
  · go_simp
    with_reducible rfl
  · simp only [Act.put, List.setIfInBounds_toArray, List.set_cons_zero, List.set_cons_succ, i64_w, i32_w]
    rfl
  refine sd_gate (N := (some 29)) (v := ?_) (a' := ?_) 15 12 26 false false rfl rops1_15 rops1_12 rfl rfl rfl rfl rfl ?_ ?_ ?_
  rotate_left 2
  · go_simp
    with_reducible rfl
  · simp only [Act.put, List.setIfInBounds_toArray, List.set_cons_zero, List.set_cons_succ, i64_w, i32_w]
    rfl
  refine sd_gate (N := (some 30)) (v := ?_) (a' := ?_) 16 12 26 false false rfl rops1_16 rops1_12 rfl rfl rfl rfl rfl ?_ ?_ ?_
  rotate_left 2
  · go_simp
    with_reducible rfl
  · simp only [Act.put, List.setIfInBounds_toArray, List.set_cons_zero, List.set_cons_succ, i64_w, i32_w]
    rfl
  refine sd_gate (N := (some 31)) (v := ?_) (a' := ?_) 17 12 26 false false rfl rops1_17 rops1_12 rfl rfl rfl rfl rfl ?_ ?_ ?_
  rotate_left 2
  · go_simp
    with_reducible rfl
  · simp only [Act.put, List.setIfInBounds_toArray, List.set_cons_zero, List.set_cons_succ, i64_w, i32_w]
    rfl
  refine sd_val (N := (some 32)) (v := ?_) (a' := ?_) 18 rops1_18 rfl rfl ?_ ?_ ?_
  rotate_left 2
  · go_simp
    with_reducible rfl
  · simp only [Act.put, List.setIfInBounds_toArray, List.set_cons_zero, List.set_cons_succ, i64_w, i32_w]
    rfl
  refine sd_val (N := (some 33)) (v := ?_) (a' := ?_) 19 rops1_19 rfl rfl ?_ ?_ ?_
  rotate_left 2
  · go_simp
    with_reducible rfl
  · simp only [Act.put, List.setIfInBounds_toArray, List.set_cons_zero, List.set_cons_succ, i64_w, i32_w]
    rfl
  refine sd_gate (N := (some 34)) (v := ?_) (a' := ?_) 20 19 33 false false rfl rops1_20 rops1_19 rfl rfl rfl rfl rfl ?_ ?_ ?_
  rotate_left 2
  · go_simp
    with_reducible rfl
  · simp only [Act.put, List.setIfInBounds_toArray, List.set_cons_zero, List.set_cons_succ, i64_w, i32_w]
    rfl
  refine sd_gate (N := (some 35)) (v := ?_) (a' := ?_) 21 19 33 false false rfl rops1_21 rops1_19 rfl rfl rfl rfl rfl ?_ ?_ ?_
  rotate_left 2
  · go_simp
    with_reducible rfl
  · simp only [Act.put, List.setIfInBounds_toArray, List.set_cons_zero, List.set_cons_succ, i64_w, i32_w]
    rfl
  refine sd_gate (N := (some 36)) (v := ?_) (a' := ?_) 22 19 33 false false rfl rops1_22 rops1_19 rfl rfl rfl rfl rfl ?_ ?_ ?_
  rotate_left 2
  · go_simp
    with_reducible rfl
  · simp only [Act.put, List.setIfInBounds_toArray, List.set_cons_zero, List.set_cons_succ, i64_w, i32_w]
    rfl
  refine sd_gate (N := (some 37)) (v := ?_) (a' := ?_) 23 19 33 false false rfl rops1_23 rops1_19 rfl rfl rfl rfl rfl ?_ ?_ ?_
  rotate_left 2
  · go_simp
    with_reducible rfl
  · simp only [Act.put, List.setIfInBounds_toArray, List.set_cons_zero, List.set_cons_succ, i64_w, i32_w]
    rfl
  refine sd_gate (N := (some 38)) (v := ?_) (a' := ?_) 24 19 33 false false rfl rops1_24 rops1_19 rfl rfl rfl rfl rfl ?_ ?_ ?_
  rotate_left 2
  · go_simp
    with_reducible rfl
  · simp only [Act.put, List.setIfInBounds_toArray, List.set_cons_zero, List.set_cons_succ, i64_w, i32_w]
    rfl
  refine sd_val (N := (some 39)) (v := ?_) (a' := ?_) 25 rops1_25 rfl rfl ?_ ?_ ?_
  rotate_left 2
  · go_simp
    with_reducible rfl
  · simp only [Act.put, List.setIfInBounds_toArray, List.set_cons_zero, List.set_cons_succ, i64_w, i32_w]
    rfl
  refine sd_val (N := (some 40)) (v := ?_) (a' := ?_) 26 rops1_26 rfl rfl ?_ ?_ ?_
  rotate_left 2
  · go_simp
    with_reducible rfl
  · simp only [Act.put, List.setIfInBounds_toArray, List.set_cons_zero, List.set_cons_succ, i64_w, i32_w]
    rfl
  refine sd_gate (N := (some 41)) (v := ?_) (a' := ?_) 27 26 40 false false rfl rops1_27 rops1_26 rfl rfl rfl rfl rfl ?_ ?_ ?_
  rotate_left 2
  · go_simp
    with_reducible rfl
  · simp only [Act.put, List.setIfInBounds_toArray, List.set_cons_zero, List.set_cons_succ, i64_w, i32_w]
    rfl
  refine sd_gate (N := (some 42)) (v := ?_) (a' := ?_) 28 26 40 false false rfl rops1_28 rops1_26 rfl rfl rfl rfl rfl ?_ ?_ ?_
  rotate_left 2
  · go_simp
    with_reducible rfl
  · simp only [Act.put, List.setIfInBounds_toArray, List.set_cons_zero, List.set_cons_succ, i64_w, i32_w]
    rfl
  refine sd_gate (N := (some 43)) (v := ?_) (a' := ?_) 29 26 40 false false rfl rops1_29 rops1_26 rfl rfl rfl rfl rfl ?_ ?_ ?_
  rotate_left 2
  · go_simp
    with_reducible rfl
  · simp only [Act.put, List.setIfInBounds_toArray, List.set_cons_zero, List.set_cons_succ, i64_w, i32_w]
    rfl
  refine sd_gate (N := (some 44)) (v := ?_) (a' := ?_) 30 26 40 false false rfl rops1_30 rops1_26 rfl rfl rfl rfl rfl ?_ ?_ ?_
  rotate_left 2
  · go_simp
    with_reducible rfl
  · simp only [Act.put, List.setIfInBounds_toArray, List.set_cons_zero, List.set_cons_succ, i64_w, i32_w]
    rfl
  refine sd_gate (N := (some 45)) (v := ?_) (a' := ?_) 31 26 40 false false rfl rops1_31 rops1_26 rfl rfl rfl rfl rfl ?_ ?_ ?_
  rotate_left 2
  · go_simp
    with_reducible rfl
  · simp only [Act.put, List.setIfInBounds_toArray, List.set_cons_zero, List.set_cons_succ, i64_w, i32_w]
    rfl
  refine sd_val (N := (some 46)) (v := ?_) (a' := ?_) 32 rops1_32 rfl rfl ?_ ?_ ?_
  rotate_left 2
  · go_simp
    with_reducible rfl
  · simp only [Act.put, List.setIfInBounds_toArray, List.set_cons_zero, List.set_cons_succ, i64_w, i32_w]
    rfl
  refine sd_val (N := (some 47)) (v := ?_) (a' := ?_) 33 rops1_33 rfl rfl ?_ ?_ ?_
  rotate_left 2
  · go_simp
    with_reducible rfl
  · simp only [Act.put, List.setIfInBounds_toArray, List.set_cons_zero, List.set_cons_succ, i64_w, i32_w]
    rfl
  refine sd_gate (N := (some 48)) (v := ?_) (a' := ?_) 34 33 47 false false rfl rops1_34 rops1_33 rfl rfl rfl rfl rfl ?_ ?_ ?_
  rotate_left 2
  · go_simp
    with_reducible rfl
  · simp only [Act.put, List.setIfInBounds_toArray, List.set_cons_zero, List.set_cons_succ, i64_w, i32_w]
    rfl
  refine sd_gate (N := (some 49)) (v := ?_) (a' := ?_) 35 33 47 false false rfl rops1_35 rops1_33 rfl rfl rfl rfl rfl ?_ ?_ ?_
  rotate_left 2
  · go_simp
    with_reducible rfl
  · simp only [Act.put, List.setIfInBounds_toArray, List.set_cons_zero, List.set_cons_succ, i64_w, i32_w]
    rfl
  refine sd_gate (N := (some 50)) (v := ?_) (a' := ?_) 36 33 47 false false rfl rops1_36 rops1_33 rfl rfl rfl rfl rfl ?_ ?_ ?_
  rotate_left 2
  · go_simp
    with_reducible rfl
  · simp only [Act.put, List.setIfInBounds_toArray, List.set_cons_zero, List.set_cons_succ, i64_w, i32_w]
    rfl
  refine sd_gate (N := (some 51)) (v := ?_) (a' := ?_) 37 33 47 false false rfl rops1_37 rops1_33 rfl rfl rfl rfl rfl ?_ ?_ ?_
  rotate_left 2
  · go_simp
    with_reducible rfl
  · simp only [Act.put, List.setIfInBounds_toArray, List.set_cons_zero, List.set_cons_succ, i64_w, i32_w]
    rfl
  refine sd_gate (N := (some 52)) (v := ?_) (a' := ?_) 38 33 47 false false rfl rops1_38 rops1_33 rfl rfl rfl rfl rfl ?_ ?_ ?_
  rotate_left 2
  · go_simp
    with_reducible rfl
  · simp only [Act.put, List.setIfInBounds_toArray, List.set_cons_zero, List.set_cons_succ, i64_w, i32_w]
    rfl
  refine sd_val (N := (some 53)) (v := ?_) (a' := ?_) 39 rops1_39 rfl rfl ?_ ?_ ?_
  rotate_left 2
  · go_simp
    with_reducible rfl
  · simp only [Act.put, List.setIfInBounds_toArray, List.set_cons_zero, List.set_cons_succ, i64_w, i32_w]
    rfl
  refine sd_val (N := (some 54)) (v := ?_) (a' := ?_) 40 rops1_40 rfl rfl ?_ ?_ ?_
  rotate_left 2
  · go_simp
    with_reducible rfl
  · simp only [Act.put, List.setIfInBounds_toArray, List.set_cons_zero, List.set_cons_succ, i64_w, i32_w]
    rfl
  refine sd_gate (N := (some 55)) (v := ?_) (a' := ?_) 41 40 54 false false rfl rops1_41 rops1_40 rfl rfl rfl rfl rfl ?_ ?_ ?_
  rotate_left 2
  · go_simp
    with_reducible rfl
  · simp only [Act.put, List.setIfInBounds_toArray, List.set_cons_zero, List.set_cons_succ, i64_w, i32_w]
    rfl
  refine sd_gate (N := (some 56)) (v := ?_) (a' := ?_) 42 40 54 false false rfl rops1_42 rops1_40 rfl rfl rfl rfl rfl ?_ ?_ ?_
  rotate_left 2
  · go_simp
    with_reducible rfl
  · simp only [Act.put, List.setIfInBounds_toArray, List.set_cons_zero, List.set_cons_succ, i64_w, i32_w]
    rfl
  refine sd_gate (N := (some 57)) (v := ?_) (a' := ?_) 43 40 54 false false rfl rops1_43 rops1_40 rfl rfl rfl rfl rfl ?_ ?_ ?_
  rotate_left 2
  · go_simp
    with_reducible rfl
  · simp only [Act.put, List.setIfInBounds_toArray, List.set_cons_zero, List.set_cons_succ, i64_w, i32_w]
    rfl
  refine sd_gate (N := (some 58)) (v := ?_) (a' := ?_) 44 40 54 false false rfl rops1_44 rops1_40 rfl rfl rfl rfl rfl ?_ ?_ ?_
  rotate_left 2
  · go_simp
    with_reducible rfl
  · simp only [Act.put, List.setIfInBounds_toArray, List.set_cons_zero, List.set_cons_succ, i64_w, i32_w]
    rfl
  refine sd_gate (N := (some 59)) (v := ?_) (a' := ?_) 45 40 54 false false rfl rops1_45 rops1_40 rfl rfl rfl rfl rfl ?_ ?_ ?_
  rotate_left 2
  · go_simp
    with_reducible rfl
  · simp only [Act.put, List.setIfInBounds_toArray, List.set_cons_zero, List.set_cons_succ, i64_w, i32_w]
    rfl
  refine sd_val (N := (some 60)) (v := ?_) (a' := ?_) 46 rops1_46 rfl rfl ?_ ?_ ?_
  rotate_left 2
  · go_simp
    with_reducible rfl
  · simp only [Act.put, List.setIfInBounds_toArray, List.set_cons_zero, List.set_cons_succ, i64_w, i32_w]
    rfl
  refine sd_val (N := (some 61)) (v := ?_) (a' := ?_) 47 rops1_47 rfl rfl ?_ ?_ ?_
  rotate_left 2
  · go_simp
    with_reducible rfl
  · simp only [Act.put, List.setIfInBounds_toArray, List.set_cons_zero, List.set_cons_succ, i64_w, i32_w]
    rfl
  refine sd_gate (N := (some 62)) (v := ?_) (a' := ?_) 48 47 61 false false rfl rops1_48 rops1_47 rfl rfl rfl rfl rfl ?_ ?_ ?_
  rotate_left 2
  · go_simp
    with_reducible rfl
  · simp only [Act.put, List.setIfInBounds_toArray, List.set_cons_zero, List.set_cons_succ, i64_w, i32_w]
    rfl
  refine sd_gate (N := (some 63)) (v := ?_) (a' := ?_) 49 47 61 false false rfl rops1_49 rops1_47 rfl rfl rfl rfl rfl ?_ ?_ ?_
  rotate_left 2
  · go_simp
    with_reducible rfl
  · simp only [Act.put, List.setIfInBounds_toArray, List.set_cons_zero, List.set_cons_succ, i64_w, i32_w]
    rfl
  refine sd_gate (N := (some 64)) (v := ?_) (a' := ?_) 50 47 61 false false rfl rops1_50 rops1_47 rfl rfl rfl rfl rfl ?_ ?_ ?_
  rotate_left 2
  · go_simp
    with_reducible rfl
  · simp only [Act.put, List.setIfInBounds_toArray, List.set_cons_zero, List.set_cons_succ, i64_w, i32_w]
    rfl
  refine sd_gate (N := (some 65)) (v := ?_) (a' := ?_) 51 47 61 false false rfl rops1_51 rops1_47 rfl rfl rfl rfl rfl ?_ ?_ ?_
  rotate_left 2
  · go_simp
    with_reducible rfl
  · simp only [Act.put, List.setIfInBounds_toArray, List.set_cons_zero, List.set_cons_succ, i64_w, i32_w]
    rfl
  refine sd_gate (N := (some 66)) (v := ?_) (a' := ?_) 52 47 61 false false rfl rops1_52 rops1_47 rfl rfl rfl rfl rfl ?_ ?_ ?_
  rotate_left 2
  · go_simp
    with_reducible rfl
  · simp only [Act.put, List.setIfInBounds_toArray, List.set_cons_zero, List.set_cons_succ, i64_w, i32_w]
    rfl
  refine sd_val (N := (some 67)) (v := ?_) (a' := ?_) 53 rops1_53 rfl rfl ?_ ?_ ?_
  rotate_left 2
  · go_simp
    with_reducible rfl
  · simp only [Act.put, List.setIfInBounds_toArray, List.set_cons_zero, List.set_cons_succ, i64_w, i32_w]
    rfl
  refine sd_val (N := (some 68)) (v := ?_) (a' := ?_) 54 rops1_54 rfl rfl ?_ ?_ ?_
  rotate_left 2
  · go_simp
    with_reducible rfl
  · simp only [Act.put, List.setIfInBounds_toArray, List.set_cons_zero, List.set_cons_succ, i64_w, i32_w]
    rfl
  refine sd_gate (N := (some 69)) (v := ?_) (a' := ?_) 55 54 68 false false rfl rops1_55 rops1_54 rfl rfl rfl rfl rfl ?_ ?_ ?_
  rotate_left 2
  · go_simp
    with_reducible rfl
  · simp only [Act.put, List.setIfInBounds_toArray, List.set_cons_zero, List.set_cons_succ, i64_w, i32_w]
    rfl
  refine sd_gate (N := (some 70)) (v := ?_) (a' := ?_) 56 54 68 false false rfl rops1_56 rops1_54 rfl rfl rfl rfl rfl ?_ ?_ ?_
  rotate_left 2
  · go_simp
    with_reducible rfl
  · simp only [Act.put, List.setIfInBounds_toArray, List.set_cons_zero, List.set_cons_succ, i64_w, i32_w]
    rfl
  refine sd_gate (N := (some 71)) (v := ?_) (a' := ?_) 57 54 68 false false rfl rops1_57 rops1_54 rfl rfl rfl rfl rfl ?_ ?_ ?_
  rotate_left 2
  · go_simp
    with_reducible rfl
  · simp only [Act.put, List.setIfInBounds_toArray, List.set_cons_zero, List.set_cons_succ, i64_w, i32_w]
    rfl
  refine sd_gate (N := (some 72)) (v := ?_) (a' := ?_) 58 54 68 false false rfl rops1_58 rops1_54 rfl rfl rfl rfl rfl ?_ ?_ ?_
  rotate_left 2
  · go_simp
    with_reducible rfl
  · simp only [Act.put, List.setIfInBounds_toArray, List.set_cons_zero, List.set_cons_succ, i64_w, i32_w]
    rfl
  refine sd_gate (N := (some 73)) (v := ?_) (a' := ?_) 59 54 68 false false rfl rops1_59 rops1_54 rfl rfl rfl rfl rfl ?_ ?_ ?_
  rotate_left 2
  · go_simp
    with_reducible rfl
  · simp only [Act.put, List.setIfInBounds_toArray, List.set_cons_zero, List.set_cons_succ, i64_w, i32_w]
    rfl
  refine sd_val (N := (some 74)) (v := ?_) (a' := ?_) 60 rops1_60 rfl rfl ?_ ?_ ?_
  rotate_left 2
  · go_simp
    with_reducible rfl
  · simp only [Act.put, List.setIfInBounds_toArray, List.set_cons_zero, List.set_cons_succ, i64_w, i32_w]
    rfl
  refine sd_val (N := (some 75)) (v := ?_) (a' := ?_) 61 rops1_61 rfl rfl ?_ ?_ ?_
  rotate_left 2
  · go_simp
    with_reducible rfl
  · simp only [Act.put, List.setIfInBounds_toArray, List.set_cons_zero, List.set_cons_succ, i64_w, i32_w]
    rfl
  refine sd_gate (N := (some 76)) (v := ?_) (a' := ?_) 62 61 75 false false rfl rops1_62 rops1_61 rfl rfl rfl rfl rfl ?_ ?_ ?_
  rotate_left 2
  · go_simp
    with_reducible rfl
  · simp only [Act.put, List.setIfInBounds_toArray, List.set_cons_zero, List.set_cons_succ, i64_w, i32_w]
    rfl
  refine sd_gate (N := (some 77)) (v := ?_) (a' := ?_) 63 61 75 false false rfl rops1_63 rops1_61 rfl rfl rfl rfl rfl ?_ ?_ ?_
  rotate_left 2
  · go_simp
    with_reducible rfl
  · simp only [Act.put, List.setIfInBounds_toArray, List.set_cons_zero, List.set_cons_succ, i64_w, i32_w]
    rfl
  refine sd_gate (N := (some 78)) (v := ?_) (a' := ?_) 64 61 75 false false rfl rops1_64 rops1_61 rfl rfl rfl rfl rfl ?_ ?_ ?_
  rotate_left 2
  · go_simp
    with_reducible rfl
  · simp only [Act.put, List.setIfInBounds_toArray, List.set_cons_zero, List.set_cons_succ, i64_w, i32_w]
    rfl
  refine sd_gate (N := (some 79)) (v := ?_) (a' := ?_) 65 61 75 false false rfl rops1_65 rops1_61 rfl rfl rfl rfl rfl ?_ ?_ ?_
  rotate_left 2
  · go_simp
    with_reducible rfl
  · simp only [Act.put, List.setIfInBounds_toArray, List.set_cons_zero, List.set_cons_succ, i64_w, i32_w]
    rfl
  refine sd_gate (N := (some 80)) (v := ?_) (a' := ?_) 66 61 75 false false rfl rops1_66 rops1_61 rfl rfl rfl rfl rfl ?_ ?_ ?_
  rotate_left 2
  · go_simp
    with_reducible rfl
  · simp only [Act.put, List.setIfInBounds_toArray, List.set_cons_zero, List.set_cons_succ, i64_w, i32_w]
    rfl
  refine sd_val (N := (some 81)) (v := ?_) (a' := ?_) 67 rops1_67 rfl rfl ?_ ?_ ?_
  rotate_left 2
  · go_simp
    with_reducible rfl
  · simp only [Act.put, List.setIfInBounds_toArray, List.set_cons_zero, List.set_cons_succ, i64_w, i32_w]
    rfl
  refine sd_val (N := (some 82)) (v := ?_) (a' := ?_) 68 rops1_68 rfl rfl ?_ ?_ ?_
  rotate_left 2
  · go_simp
    with_reducible rfl
  · simp only [Act.put, List.setIfInBounds_toArray, List.set_cons_zero, List.set_cons_succ, i64_w, i32_w]
    rfl
  refine sd_gate (N := (some 83)) (v := ?_) (a' := ?_) 69 68 82 false false rfl rops1_69 rops1_68 rfl rfl rfl rfl rfl ?_ ?_ ?_
  rotate_left 2
  · go_simp
    with_reducible rfl
  · simp only [Act.put, List.setIfInBounds_toArray, List.set_cons_zero, List.set_cons_succ, i64_w, i32_w]
    rfl
  refine sd_gate (N := (some 84)) (v := ?_) (a' := ?_) 70 68 82 false false rfl rops1_70 rops1_68 rfl rfl rfl rfl rfl ?_ ?_ ?_
  rotate_left 2
  · go_simp
    with_reducible rfl
  · simp only [Act.put, List.setIfInBounds_toArray, List.set_cons_zero, List.set_cons_succ, i64_w, i32_w]
    rfl
  refine sd_gate (N := (some 85)) (v := ?_) (a' := ?_) 71 68 82 false false rfl rops1_71 rops1_68 rfl rfl rfl rfl rfl ?_ ?_ ?_
  rotate_left 2
  · go_simp
    with_reducible rfl
  · simp only [Act.put, List.setIfInBounds_toArray, List.set_cons_zero, List.set_cons_succ, i64_w, i32_w]
    rfl
  refine sd_gate (N := (some 86)) (v := ?_) (a' := ?_) 72 68 82 false false rfl rops1_72 rops1_68 rfl rfl rfl rfl rfl ?_ ?_ ?_
  rotate_left 2
  · go_simp
    with_reducible rfl
  · simp only [Act.put, List.setIfInBounds_toArray, List.set_cons_zero, List.set_cons_succ, i64_w, i32_w]
    rfl
  refine sd_gate (N := (some 87)) (v := ?_) (a' := ?_) 73 68 82 false false rfl rops1_73 rops1_68 rfl rfl rfl rfl rfl ?_ ?_ ?_
  rotate_left 2
  · go_simp
    with_reducible rfl
  · simp only [Act.put, List.setIfInBounds_toArray, List.set_cons_zero, List.set_cons_succ, i64_w, i32_w]
    rfl
  refine sd_val (N := (some 88)) (v := ?_) (a' := ?_) 74 rops1_74 rfl rfl ?_ ?_ ?_
  rotate_left 2
  · go_simp
    with_reducible rfl
  · simp only [Act.put, List.setIfInBounds_toArray, List.set_cons_zero, List.set_cons_succ, i64_w, i32_w]
    rfl
  refine sd_val (N := (some 89)) (v := ?_) (a' := ?_) 75 rops1_75 rfl rfl ?_ ?_ ?_
  rotate_left 2
  · go_simp
    with_reducible rfl
  · simp only [Act.put, List.setIfInBounds_toArray, List.set_cons_zero, List.set_cons_succ, i64_w, i32_w]
    rfl
  refine sd_gate (N := (some 90)) (v := ?_) (a' := ?_) 76 75 89 false false rfl rops1_76 rops1_75 rfl rfl rfl rfl rfl ?_ ?_ ?_
  rotate_left 2
  · go_simp
    with_reducible rfl
  · simp only [Act.put, List.setIfInBounds_toArray, List.set_cons_zero, List.set_cons_succ, i64_w, i32_w]
    rfl
  refine sd_gate (N := (some 91)) (v := ?_) (a' := ?_) 77 75 89 false false rfl rops1_77 rops1_75 rfl rfl rfl rfl rfl ?_ ?_ ?_
  rotate_left 2
  · go_simp
    with_reducible rfl
  · simp only [Act.put, List.setIfInBounds_toArray, List.set_cons_zero, List.set_cons_succ, i64_w, i32_w]
    rfl
  refine sd_gate (N := (some 92)) (v := ?_) (a' := ?_) 78 75 89 false false rfl rops1_78 rops1_75 rfl rfl rfl rfl rfl ?_ ?_ ?_
  rotate_left 2
  · go_simp
    with_reducible rfl
  · simp only [Act.put, List.setIfInBounds_toArray, List.set_cons_zero, List.set_cons_succ, i64_w, i32_w]
    rfl
  refine sd_gate (N := (some 93)) (v := ?_) (a' := ?_) 79 75 89 false false rfl rops1_79 rops1_75 rfl rfl rfl rfl rfl ?_ ?_ ?_
  rotate_left 2
  · go_simp
    with_reducible rfl
  · simp only [Act.put, List.setIfInBounds_toArray, List.set_cons_zero, List.set_cons_succ, i64_w, i32_w]
    rfl
  refine sd_gate (N := (some 94)) (v := ?_) (a' := ?_) 80 75 89 false false rfl rops1_80 rops1_75 rfl rfl rfl rfl rfl ?_ ?_ ?_
  rotate_left 2
  · go_simp
    with_reducible rfl
  · simp only [Act.put, List.setIfInBounds_toArray, List.set_cons_zero, List.set_cons_succ, i64_w, i32_w]
    rfl
  refine sd_val (N := (some 95)) (v := ?_) (a' := ?_) 81 rops1_81 rfl rfl ?_ ?_ ?_
  rotate_left 2
  · go_simp
    with_reducible rfl
  · simp only [Act.put, List.setIfInBounds_toArray, List.set_cons_zero, List.set_cons_succ, i64_w, i32_w]
    rfl
  show SD _ _ _ [] _ _
  refine sd_nil (hQ' _ _ _ ?_)
  clear hQ'
  clear Q'
  go_upto_region 3 with (fail)
  refine wp_region_list ?_
  refine sd_hideQ fun Q' hQ' => ?_
  show SD _ (opsOf Try.f10 3) _ (rops3.drop 0) _ _
  refine sd_val (N := (some 96)) (v := ?_) (a' := ?_) 0 rops3_0 rfl rfl ?_ ?_ ?_
  rotate_left 2
  · go_simp
    with_reducible rfl
  · simp only [Act.put, List.setIfInBounds_toArray, List.set_cons_zero, List.set_cons_succ, i64_w, i32_w]
    rfl
  refine sd_val (N := (some 97)) (v := ?_) (a' := ?_) 1 rops3_1 rfl rfl ?_ ?_ ?_
  rotate_left 2
  · go_simp
    with_reducible rfl
  · simp only [Act.put, List.setIfInBounds_toArray, List.set_cons_zero, List.set_cons_succ, i64_w, i32_w]
    rfl
  refine sd_val (N := (some 98)) (v := ?_) (a' := ?_) 2 rops3_2 rfl rfl ?_ ?_ ?_
  rotate_left 2
  · go_simp
    with_reducible rfl
  · simp only [Act.put, List.setIfInBounds_toArray, List.set_cons_zero, List.set_cons_succ, i64_w, i32_w]
    rfl
  refine sd_val (N := (some 99)) (v := ?_) (a' := ?_) 3 rops3_3 rfl rfl ?_ ?_ ?_
  rotate_left 2
  · go_simp
    with_reducible rfl
  · simp only [Act.put, List.setIfInBounds_toArray, List.set_cons_zero, List.set_cons_succ, i64_w, i32_w]
    rfl
  refine sd_val (N := (some 100)) (v := ?_) (a' := ?_) 4 rops3_4 rfl rfl ?_ ?_ ?_
  rotate_left 2
  · go_simp
    with_reducible rfl
  · simp only [Act.put, List.setIfInBounds_toArray, List.set_cons_zero, List.set_cons_succ, i64_w, i32_w]
    rfl
  refine sd_val (N := (some 101)) (v := ?_) (a' := ?_) 5 rops3_5 rfl rfl ?_ ?_ ?_
  rotate_left 2
  · go_simp
    with_reducible rfl
  · simp only [Act.put, List.setIfInBounds_toArray, List.set_cons_zero, List.set_cons_succ, i64_w, i32_w]
    rfl
  refine sd_gate (N := (some 102)) (v := ?_) (a' := ?_) 6 5 101 false false rfl rops3_6 rops3_5 rfl rfl rfl rfl rfl ?_ ?_ ?_
  rotate_left 2
  · go_simp
    with_reducible rfl
  · simp only [Act.put, List.setIfInBounds_toArray, List.set_cons_zero, List.set_cons_succ, i64_w, i32_w]
    rfl
  refine sd_gate (N := (some 103)) (v := ?_) (a' := ?_) 7 5 101 false false rfl rops3_7 rops3_5 rfl rfl rfl rfl rfl ?_ ?_ ?_
  rotate_left 2
  · go_simp
    with_reducible rfl
  · simp only [Act.put, List.setIfInBounds_toArray, List.set_cons_zero, List.set_cons_succ, i64_w, i32_w]
    rfl
  refine sd_gate (N := (some 104)) (v := ?_) (a' := ?_) 8 5 101 false false rfl rops3_8 rops3_5 rfl rfl rfl rfl rfl ?_ ?_ ?_
  rotate_left 2
  · go_simp
    with_reducible rfl
  · simp only [Act.put, List.setIfInBounds_toArray, List.set_cons_zero, List.set_cons_succ, i64_w, i32_w]
    rfl
  refine sd_gate (N := (some 105)) (v := ?_) (a' := ?_) 9 5 101 false false rfl rops3_9 rops3_5 rfl rfl rfl rfl rfl ?_ ?_ ?_
  rotate_left 2
  · go_simp
    with_reducible rfl
  · simp only [Act.put, List.setIfInBounds_toArray, List.set_cons_zero, List.set_cons_succ, i64_w, i32_w]
    rfl
  refine sd_gate (N := (some 106)) (v := ?_) (a' := ?_) 10 5 101 false false rfl rops3_10 rops3_5 rfl rfl rfl rfl rfl ?_ ?_ ?_
  rotate_left 2
  · go_simp
    with_reducible rfl
  · simp only [Act.put, List.setIfInBounds_toArray, List.set_cons_zero, List.set_cons_succ, i64_w, i32_w]
    rfl
  refine sd_val (N := (some 107)) (v := ?_) (a' := ?_) 11 rops3_11 rfl rfl ?_ ?_ ?_
  rotate_left 2
  · go_simp
    with_reducible rfl
  · simp only [Act.put, List.setIfInBounds_toArray, List.set_cons_zero, List.set_cons_succ, i64_w, i32_w]
    rfl
  refine sd_val (N := (some 108)) (v := ?_) (a' := ?_) 12 rops3_12 rfl rfl ?_ ?_ ?_
  rotate_left 2
  · go_simp
    with_reducible rfl
  · simp only [Act.put, List.setIfInBounds_toArray, List.set_cons_zero, List.set_cons_succ, i64_w, i32_w]
    rfl
  refine sd_gate (N := (some 109)) (v := ?_) (a' := ?_) 13 12 108 false false rfl rops3_13 rops3_12 rfl rfl rfl rfl rfl ?_ ?_ ?_
  rotate_left 2
  · go_simp
    with_reducible rfl
  · simp only [Act.put, List.setIfInBounds_toArray, List.set_cons_zero, List.set_cons_succ, i64_w, i32_w]
    rfl
  refine sd_gate (N := (some 110)) (v := ?_) (a' := ?_) 14 12 108 false false rfl rops3_14 rops3_12 rfl rfl rfl rfl rfl ?_ ?_ ?_
  rotate_left 2
  · go_simp
    with_reducible rfl
  · simp only [Act.put, List.setIfInBounds_toArray, List.set_cons_zero, List.set_cons_succ, i64_w, i32_w]
    rfl
  refine sd_gate (N := (some 111)) (v := ?_) (a' := ?_) 15 12 108 false false rfl rops3_15 rops3_12 rfl rfl rfl rfl rfl ?_ ?_ ?_
  rotate_left 2
  · go_simp
    with_reducible rfl
  · simp only [Act.put, List.setIfInBounds_toArray, List.set_cons_zero, List.set_cons_succ, i64_w, i32_w]
    rfl
  refine sd_gate (N := (some 112)) (v := ?_) (a' := ?_) 16 12 108 false false rfl rops3_16 rops3_12 rfl rfl rfl rfl rfl ?_ ?_ ?_
  rotate_left 2
  · go_simp
    with_reducible rfl
  · simp only [Act.put, List.setIfInBounds_toArray, List.set_cons_zero, List.set_cons_succ, i64_w, i32_w]
    rfl
  refine sd_gate (N := (some 113)) (v := ?_) (a' := ?_) 17 12 108 false false rfl rops3_17 rops3_12 rfl rfl rfl rfl rfl ?_ ?_ ?_
  rotate_left 2
  · go_simp
    with_reducible rfl
  · simp only [Act.put, List.setIfInBounds_toArray, List.set_cons_zero, List.set_cons_succ, i64_w, i32_w]
    rfl
  refine sd_val (N := (some 114)) (v := ?_) (a' := ?_) 18 rops3_18 rfl rfl ?_ ?_ ?_
  rotate_left 2
  · go_simp
    with_reducible rfl
  · simp only [Act.put, List.setIfInBounds_toArray, List.set_cons_zero, List.set_cons_succ, i64_w, i32_w]
    rfl
  refine sd_val (N := (some 115)) (v := ?_) (a' := ?_) 19 rops3_19 rfl rfl ?_ ?_ ?_
  rotate_left 2
  · go_simp
    with_reducible rfl
  · simp only [Act.put, List.setIfInBounds_toArray, List.set_cons_zero, List.set_cons_succ, i64_w, i32_w]
    rfl
  refine sd_gate (N := (some 116)) (v := ?_) (a' := ?_) 20 19 115 false false rfl rops3_20 rops3_19 rfl rfl rfl rfl rfl ?_ ?_ ?_
  rotate_left 2
  · go_simp
    with_reducible rfl
  · simp only [Act.put, List.setIfInBounds_toArray, List.set_cons_zero, List.set_cons_succ, i64_w, i32_w]
    rfl
  refine sd_gate (N := (some 117)) (v := ?_) (a' := ?_) 21 19 115 false false rfl rops3_21 rops3_19 rfl rfl rfl rfl rfl ?_ ?_ ?_
  rotate_left 2
  · go_simp
    with_reducible rfl
  · simp only [Act.put, List.setIfInBounds_toArray, List.set_cons_zero, List.set_cons_succ, i64_w, i32_w]
    rfl
  refine sd_gate (N := (some 118)) (v := ?_) (a' := ?_) 22 19 115 false false rfl rops3_22 rops3_19 rfl rfl rfl rfl rfl ?_ ?_ ?_
  rotate_left 2
  · go_simp
    with_reducible rfl
  · simp only [Act.put, List.setIfInBounds_toArray, List.set_cons_zero, List.set_cons_succ, i64_w, i32_w]
    rfl
  refine sd_gate (N := (some 119)) (v := ?_) (a' := ?_) 23 19 115 false false rfl rops3_23 rops3_19 rfl rfl rfl rfl rfl ?_ ?_ ?_
  rotate_left 2
  · go_simp
    with_reducible rfl
  · simp only [Act.put, List.setIfInBounds_toArray, List.set_cons_zero, List.set_cons_succ, i64_w, i32_w]
    rfl
  refine sd_gate (N := (some 120)) (v := ?_) (a' := ?_) 24 19 115 false false rfl rops3_24 rops3_19 rfl rfl rfl rfl rfl ?_ ?_ ?_
  rotate_left 2
  · go_simp
    with_reducible rfl
  · simp only [Act.put, List.setIfInBounds_toArray, List.set_cons_zero, List.set_cons_succ, i64_w, i32_w]
    rfl
  refine sd_val (N := (some 121)) (v := ?_) (a' := ?_) 25 rops3_25 rfl rfl ?_ ?_ ?_
  rotate_left 2
  · go_simp
    with_reducible rfl
  · simp only [Act.put, List.setIfInBounds_toArray, List.set_cons_zero, List.set_cons_succ, i64_w, i32_w]
    rfl
  refine sd_val (N := (some 122)) (v := ?_) (a' := ?_) 26 rops3_26 rfl rfl ?_ ?_ ?_
  rotate_left 2
  · go_simp
    with_reducible rfl
  · simp only [Act.put, List.setIfInBounds_toArray, List.set_cons_zero, List.set_cons_succ, i64_w, i32_w]
    rfl
  refine sd_gate (N := (some 123)) (v := ?_) (a' := ?_) 27 26 122 false false rfl rops3_27 rops3_26 rfl rfl rfl rfl rfl ?_ ?_ ?_
  rotate_left 2
  · go_simp
    with_reducible rfl
  · simp only [Act.put, List.setIfInBounds_toArray, List.set_cons_zero, List.set_cons_succ, i64_w, i32_w]
    rfl
  refine sd_gate (N := (some 124)) (v := ?_) (a' := ?_) 28 26 122 false false rfl rops3_28 rops3_26 rfl rfl rfl rfl rfl ?_ ?_ ?_
  rotate_left 2
  · go_simp
    with_reducible rfl
  · simp only [Act.put, List.setIfInBounds_toArray, List.set_cons_zero, List.set_cons_succ, i64_w, i32_w]
    rfl
  refine sd_gate (N := (some 125)) (v := ?_) (a' := ?_) 29 26 122 false false rfl rops3_29 rops3_26 rfl rfl rfl rfl rfl ?_ ?_ ?_
  rotate_left 2
  · go_simp
    with_reducible rfl
  · simp only [Act.put, List.setIfInBounds_toArray, List.set_cons_zero, List.set_cons_succ, i64_w, i32_w]
    rfl
  refine sd_gate (N := (some 126)) (v := ?_) (a' := ?_) 30 26 122 false false rfl rops3_30 rops3_26 rfl rfl rfl rfl rfl ?_ ?_ ?_
  rotate_left 2
  · go_simp
    with_reducible rfl
  · simp only [Act.put, List.setIfInBounds_toArray, List.set_cons_zero, List.set_cons_succ, i64_w, i32_w]
    rfl
  refine sd_gate (N := (some 127)) (v := ?_) (a' := ?_) 31 26 122 false false rfl rops3_31 rops3_26 rfl rfl rfl rfl rfl ?_ ?_ ?_
  rotate_left 2
  · go_simp
    with_reducible rfl
  · simp only [Act.put, List.setIfInBounds_toArray, List.set_cons_zero, List.set_cons_succ, i64_w, i32_w]
    rfl
  refine sd_val (N := (some 128)) (v := ?_) (a' := ?_) 32 rops3_32 rfl rfl ?_ ?_ ?_
  rotate_left 2
  · go_simp
    with_reducible rfl
  · simp only [Act.put, List.setIfInBounds_toArray, List.set_cons_zero, List.set_cons_succ, i64_w, i32_w]
    rfl
  show SD _ _ _ [] _ _
  refine sd_nil (hQ' _ _ _ ?_)
  clear hQ'
  clear Q'
  go_wp2_with (go_at_call 21; refine (busbarref01_Words.calls k1 _ _ x.words _ _ y.words _ _ (by repeat (first | exact (Kd.C_below HRx12.out HB.out) | (with_reducible refine Kd.C_alloc ?_ _) | (with_reducible refine Kd.C_drewN ?_ _) | (with_reducible refine Kd.C_drew ?_))) hcx12 (by repeat (first | exact (Kd.C_below HRy12.out HB.out) | (with_reducible refine Kd.C_alloc ?_ _) | (with_reducible refine Kd.C_drewN ?_ _) | (with_reducible refine Kd.C_drew ?_))) hcy12 P1.out).mono ?_; rintro e w2 ⟨rfl, ⟨nd1, rfl⟩⟩)
  go_wp2_with (go_at_call 22; refine (busbarref01_Bools.calls k2 _ _ x.bits _ _ y.bits _ _ (by repeat (first | exact (Kd.C_below HRx13.out HB.out) | (with_reducible refine Kd.C_alloc ?_ _) | (with_reducible refine Kd.C_drewN ?_ _) | (with_reducible refine Kd.C_drew ?_))) hcx13 (by repeat (first | exact (Kd.C_below HRy13.out HB.out) | (with_reducible refine Kd.C_alloc ?_ _) | (with_reducible refine Kd.C_drewN ?_ _) | (with_reducible refine Kd.C_drew ?_))) hcy13 P2.out).mono ?_; rintro e w3 ⟨rfl, ⟨nd2, rfl⟩⟩)
  cases b1 with
  | false =>
    go_wp2_with (go_at_call 15; refine (busbarref01_Same.calls _ _ x.data _ _ y.data _ _ (by repeat (first | exact (Kd.C_below HRx14.out HB.out) | (with_reducible refine Kd.C_alloc ?_ _) | (with_reducible refine Kd.C_drewN ?_ _) | (with_reducible refine Kd.C_drew ?_))) hcx14 (by repeat (first | exact (Kd.C_below HRy14.out HB.out) | (with_reducible refine Kd.C_alloc ?_ _) | (with_reducible refine Kd.C_drewN ?_ _) | (with_reducible refine Kd.C_drew ?_))) hcy14 P3.out).mono ?_; rintro e w4 ⟨rfl, ⟨nd3, rfl⟩⟩)
    go_ret
    exact ⟨rfl, (by repeat (first | exact HB.out | (with_reducible first | apply below_alloc | apply pw_below_drewN | apply below_drew1)))⟩
  | true =>
  cases b2 with
  | false =>
    go_wp2_with (go_at_call 15; refine (busbarref01_Same.calls _ _ x.data _ _ y.data _ _ (by repeat (first | exact (Kd.C_below HRx14.out HB.out) | (with_reducible refine Kd.C_alloc ?_ _) | (with_reducible refine Kd.C_drewN ?_ _) | (with_reducible refine Kd.C_drew ?_))) hcx14 (by repeat (first | exact (Kd.C_below HRy14.out HB.out) | (with_reducible refine Kd.C_alloc ?_ _) | (with_reducible refine Kd.C_drewN ?_ _) | (with_reducible refine Kd.C_drew ?_))) hcy14 P3.out).mono ?_; rintro e w4 ⟨rfl, ⟨nd3, rfl⟩⟩)
    go_ret
    exact ⟨rfl, (by repeat (first | exact HB.out | (with_reducible first | apply below_alloc | apply pw_below_drewN | apply below_drew1)))⟩
  | true =>
  cases b3 with
  | false =>
    go_wp2_with (go_at_call 15; refine (busbarref01_Same.calls _ _ x.data _ _ y.data _ _ (by repeat (first | exact (Kd.C_below HRx14.out HB.out) | (with_reducible refine Kd.C_alloc ?_ _) | (with_reducible refine Kd.C_drewN ?_ _) | (with_reducible refine Kd.C_drew ?_))) hcx14 (by repeat (first | exact (Kd.C_below HRy14.out HB.out) | (with_reducible refine Kd.C_alloc ?_ _) | (with_reducible refine Kd.C_drewN ?_ _) | (with_reducible refine Kd.C_drew ?_))) hcy14 P3.out).mono ?_; rintro e w4 ⟨rfl, ⟨nd3, rfl⟩⟩)
    go_ret
    exact ⟨rfl, (by repeat (first | exact HB.out | (with_reducible first | apply below_alloc | apply pw_below_drewN | apply below_drew1)))⟩
  | true =>
  by_cases lrecs : x.recs.length = y.recs.length
  · have t1recs : (x.recs.length == y.recs.length) = true := beq_iff_eq.2 lrecs
    have t2recs : (x.recs.length != y.recs.length) = false := by rw [lrecs]; simp
    have t3recs : ((x.recs.length : Int) == (y.recs.length : Int)) = true := beq_iff_eq.2 (by omega)
    have t4recs : ((x.recs.length : Int) != (y.recs.length : Int)) = false := by rw [lrecs]; simp
    have Lrecs := Aside0.mk lrecs
    clear lrecs
    by_cases lobjects : x.objects.length = y.objects.length
    · have t1objects : (x.objects.length == y.objects.length) = true := beq_iff_eq.2 lobjects
      have t2objects : (x.objects.length != y.objects.length) = false := by rw [lobjects]; simp
      have t3objects : ((x.objects.length : Int) == (y.objects.length : Int)) = true := beq_iff_eq.2 (by omega)
      have t4objects : ((x.objects.length : Int) != (y.objects.length : Int)) = false := by rw [lobjects]; simp
      have Lobjects := Aside0.mk lobjects
      clear lobjects
      go_wp2_with (go_at_call 15; refine (busbarref01_Same.calls _ _ x.data _ _ y.data _ _ (by repeat (first | exact (Kd.C_below HRx14.out HB.out) | (with_reducible refine Kd.C_alloc ?_ _) | (with_reducible refine Kd.C_drewN ?_ _) | (with_reducible refine Kd.C_drew ?_))) hcx14 (by repeat (first | exact (Kd.C_below HRy14.out HB.out) | (with_reducible refine Kd.C_alloc ?_ _) | (with_reducible refine Kd.C_drewN ?_ _) | (with_reducible refine Kd.C_drew ?_))) hcy14 P3.out).mono ?_; rintro e w4 ⟨rfl, ⟨nd3, rfl⟩⟩)
      go_loopw [8] (fun i wr => ∃ k : Nat, k ≤ x.recs.length ∧ i = .int .i64 k ∧ Aside0 (listB recB x.recs y.recs = listB recB (x.recs.drop k) (y.recs.drop k)) ∧ Aside0 (Below w.heap.size w wr) ∧ Aside0 (Below wc.heap.size wc wr)) (fun i _ => x.recs.length - (intOf i).toNat)
      case atStart => exact ⟨0, Nat.zero_le _, rfl, ⟨rfl⟩, ⟨(by repeat (first | exact HB.out | (with_reducible first | apply below_alloc | apply pw_below_drewN | apply below_drew1)))⟩, ⟨(by repeat (first | exact Below.refl _ _ | (with_reducible first | apply below_alloc | apply pw_below_drewN | apply below_drew1)))⟩⟩
      case round =>
        obtain ⟨k, hk, rfl, HL, HW, HV⟩ := hrel
        have qx15 := (HV.out.cell (World.block_lt_of_cell? wc _ px15)).trans px15
        have qy15 := (HV.out.cell (World.block_lt_of_cell? wc _ py15)).trans py15
        have qx21 := (HV.out.cell (World.block_lt_of_cell? wc _ px21)).trans px21
        have qy21 := (HV.out.cell (World.block_lt_of_cell? wc _ py21)).trans py21
        clear px0 px1 px2 px3 px4 px5 px6 px7 px8 px9 px10 px11 px12 px13 px14 px15 px16 px17 px18 px19 px20 px21 py0 py1 py2 py3 py4 py5 py6 py7 py8 py9 py10 py11 py12 py13 py14 py15 py16 py17 py18 py19 py20 py21
        have hll : x.recs.length ≤ 9223372036854775807 := HRx15.out.2.1
        by_cases hlt : k < x.recs.length
        · have hlt2 : k < y.recs.length := by rw [← Lrecs.out]; exact hlt
          obtain ⟨adA, A3, cA3, rfl, x0, x1, x2, x3, gA, qA⟩ := at_T50 HRx15.out (k : Int) (by omega) (by omega)
          obtain ⟨adB, B3, cB3, rfl, y0, y1, y2, y3, gB, qB⟩ := at_T50 HRy15.out (k : Int) (by omega) (by omega)
          have rx0 := (HW.out.cell (World.block_lt_of_cell? w _ x0)).trans x0
          rw [Int.toNat_natCast] at rx0
          clear x0
          have ax0 := fun o : Obj => ((below_alloc (Below.refl _ wr) o).cell (World.block_lt_of_cell? wr _ rx0)).trans rx0
          have rx1 := (HW.out.cell (World.block_lt_of_cell? w _ x1)).trans x1
          rw [Int.toNat_natCast] at rx1
          clear x1
          have ax1 := fun o : Obj => ((below_alloc (Below.refl _ wr) o).cell (World.block_lt_of_cell? wr _ rx1)).trans rx1
          have rx2 := (HW.out.cell (World.block_lt_of_cell? w _ x2)).trans x2
          rw [Int.toNat_natCast] at rx2
          clear x2
          have ax2 := fun o : Obj => ((below_alloc (Below.refl _ wr) o).cell (World.block_lt_of_cell? wr _ rx2)).trans rx2
          have rx3 := (HW.out.cell (World.block_lt_of_cell? w _ x3)).trans x3
          rw [Int.toNat_natCast] at rx3
          clear x3
          have ax3 := fun o : Obj => ((below_alloc (Below.refl _ wr) o).cell (World.block_lt_of_cell? wr _ rx3)).trans rx3
          have ry0 := (HW.out.cell (World.block_lt_of_cell? w _ y0)).trans y0
          rw [Int.toNat_natCast] at ry0
          clear y0
          have ay0 := fun o : Obj => ((below_alloc (Below.refl _ wr) o).cell (World.block_lt_of_cell? wr _ ry0)).trans ry0
          have ry1 := (HW.out.cell (World.block_lt_of_cell? w _ y1)).trans y1
          rw [Int.toNat_natCast] at ry1
          clear y1
          have ay1 := fun o : Obj => ((below_alloc (Below.refl _ wr) o).cell (World.block_lt_of_cell? wr _ ry1)).trans ry1
          have ry2 := (HW.out.cell (World.block_lt_of_cell? w _ y2)).trans y2
          rw [Int.toNat_natCast] at ry2
          clear y2
          have ay2 := fun o : Obj => ((below_alloc (Below.refl _ wr) o).cell (World.block_lt_of_cell? wr _ ry2)).trans ry2
          have ry3 := (HW.out.cell (World.block_lt_of_cell? w _ y3)).trans y3
          rw [Int.toNat_natCast] at ry3
          clear y3
          have ay3 := fun o : Obj => ((below_alloc (Below.refl _ wr) o).cell (World.block_lt_of_cell? wr _ ry3)).trans ry3
          have sx15 := fun o : Obj => ((below_alloc (Below.refl _ wr) o).cell (World.block_lt_of_cell? wr _ qx15)).trans qx15
          have sy15 := fun o : Obj => ((below_alloc (Below.refl _ wr) o).cell (World.block_lt_of_cell? wr _ qy15)).trans qy15
          have sx21 := fun o : Obj => ((below_alloc (Below.refl _ wr) o).cell (World.block_lt_of_cell? wr _ qx21)).trans qx21
          have sy21 := fun o : Obj => ((below_alloc (Below.refl _ wr) o).cell (World.block_lt_of_cell? wr _ qy21)).trans qy21
          have hdrop : listB recB (x.recs.drop k) (y.recs.drop k) = (recB (rd_T50 x.recs k) (rd_T50 y.recs k) && listB recB (x.recs.drop (k + 1)) (y.recs.drop (k + 1))) := by
            rw [drop_cons hlt z50, drop_cons hlt2 z50]; rfl
          have HD := Aside0.mk hdrop
          clear hdrop
          have HX := Aside0.mk qA
          have HY := Aside0.mk qB
          clear qA qB
          obtain ⟨kk, hpure⟩ := (R01.words_ev (rd_T50 x.recs k).f3 (rd_T50 y.recs k).f3 (by have := HX.out.2.1; omega)).rounds
          cases c3 : ((rd_T50 x.recs k).f3 == (rd_T50 y.recs k).f3) with
          | false =>
            rw [c3] at hpure
            have hcmp : recB (rd_T50 x.recs k) (rd_T50 y.recs k) = false := by
              unfold recB
              simp [c3]
            have HC := Aside0.mk hcmp
            clear hcmp
            have HP := Aside0.mk hpure
            clear hpure
            go_wp2_with (go_at_call 21; refine (busbarref01_Words.calls kk _ _ (rd_T50 x.recs k).f3 _ _ (rd_T50 y.recs k).f3 _ _ (by repeat (first | exact (Kd.C_below HX.out HW.out) | (with_reducible refine Kd.C_alloc ?_ _) | (with_reducible refine Kd.C_drewN ?_ _) | (with_reducible refine Kd.C_drew ?_))) gA (by repeat (first | exact (Kd.C_below HY.out HW.out) | (with_reducible refine Kd.C_alloc ?_ _) | (with_reducible refine Kd.C_drewN ?_ _) | (with_reducible refine Kd.C_drew ?_))) gB HP.out).mono ?_; rintro e w2 ⟨rfl, ⟨nd4, rfl⟩⟩)
            go_ret
            exact ⟨by rw [HL.out, HD.out, HC.out]; rfl, (by repeat (first | exact HW.out | (with_reducible first | apply below_alloc | apply pw_below_drewN | apply below_drew1)))⟩
          | true =>
          rw [c3] at hpure
          cases c0 : ((rd_T50 x.recs k).f0 != (rd_T50 y.recs k).f0) with
          | true =>
            have c0' : ((rd_T50 x.recs k).f0 == (rd_T50 y.recs k).f0) = false := by simpa using c0
            have hcmp : recB (rd_T50 x.recs k) (rd_T50 y.recs k) = false := by
              unfold recB
              simp [c0']
            have HC := Aside0.mk hcmp
            clear hcmp
            have HP := Aside0.mk hpure
            clear hpure
            go_wp2_with (go_at_call 21; refine (busbarref01_Words.calls kk _ _ (rd_T50 x.recs k).f3 _ _ (rd_T50 y.recs k).f3 _ _ (by repeat (first | exact (Kd.C_below HX.out HW.out) | (with_reducible refine Kd.C_alloc ?_ _) | (with_reducible refine Kd.C_drewN ?_ _) | (with_reducible refine Kd.C_drew ?_))) gA (by repeat (first | exact (Kd.C_below HY.out HW.out) | (with_reducible refine Kd.C_alloc ?_ _) | (with_reducible refine Kd.C_drewN ?_ _) | (with_reducible refine Kd.C_drew ?_))) gB HP.out).mono ?_; rintro e w2 ⟨rfl, ⟨nd4, rfl⟩⟩)
            go_ret
            exact ⟨by rw [HL.out, HD.out, HC.out]; rfl, (by repeat (first | exact HW.out | (with_reducible first | apply below_alloc | apply pw_below_drewN | apply below_drew1)))⟩
          | false =>
          have c0' : ((rd_T50 x.recs k).f0 == (rd_T50 y.recs k).f0) = true := by simpa using c0
          cases c1 : ((rd_T50 x.recs k).f1 != (rd_T50 y.recs k).f1) with
          | true =>
            have c1' : ((rd_T50 x.recs k).f1 == (rd_T50 y.recs k).f1) = false := by simpa using c1
            have hcmp : recB (rd_T50 x.recs k) (rd_T50 y.recs k) = false := by
              unfold recB
              simp [c1']
            have HC := Aside0.mk hcmp
            clear hcmp
            have HP := Aside0.mk hpure
            clear hpure
            go_wp2_with (go_at_call 21; refine (busbarref01_Words.calls kk _ _ (rd_T50 x.recs k).f3 _ _ (rd_T50 y.recs k).f3 _ _ (by repeat (first | exact (Kd.C_below HX.out HW.out) | (with_reducible refine Kd.C_alloc ?_ _) | (with_reducible refine Kd.C_drewN ?_ _) | (with_reducible refine Kd.C_drew ?_))) gA (by repeat (first | exact (Kd.C_below HY.out HW.out) | (with_reducible refine Kd.C_alloc ?_ _) | (with_reducible refine Kd.C_drewN ?_ _) | (with_reducible refine Kd.C_drew ?_))) gB HP.out).mono ?_; rintro e w2 ⟨rfl, ⟨nd4, rfl⟩⟩)
            go_ret
            exact ⟨by rw [HL.out, HD.out, HC.out]; rfl, (by repeat (first | exact HW.out | (with_reducible first | apply below_alloc | apply pw_below_drewN | apply below_drew1)))⟩
          | false =>
          have c1' : ((rd_T50 x.recs k).f1 == (rd_T50 y.recs k).f1) = true := by simpa using c1
          cases c2 : ((rd_T50 x.recs k).f2 != (rd_T50 y.recs k).f2) with
          | true =>
            have c2' : ((rd_T50 x.recs k).f2 == (rd_T50 y.recs k).f2) = false := by simpa using c2
            have hcmp : recB (rd_T50 x.recs k) (rd_T50 y.recs k) = false := by
              unfold recB
              simp [c2']
            have HC := Aside0.mk hcmp
            clear hcmp
            have HP := Aside0.mk hpure
            clear hpure
            go_wp2_with (go_at_call 21; refine (busbarref01_Words.calls kk _ _ (rd_T50 x.recs k).f3 _ _ (rd_T50 y.recs k).f3 _ _ (by repeat (first | exact (Kd.C_below HX.out HW.out) | (with_reducible refine Kd.C_alloc ?_ _) | (with_reducible refine Kd.C_drewN ?_ _) | (with_reducible refine Kd.C_drew ?_))) gA (by repeat (first | exact (Kd.C_below HY.out HW.out) | (with_reducible refine Kd.C_alloc ?_ _) | (with_reducible refine Kd.C_drewN ?_ _) | (with_reducible refine Kd.C_drew ?_))) gB HP.out).mono ?_; rintro e w2 ⟨rfl, ⟨nd4, rfl⟩⟩)
            go_ret
            exact ⟨by rw [HL.out, HD.out, HC.out]; rfl, (by repeat (first | exact HW.out | (with_reducible first | apply below_alloc | apply pw_below_drewN | apply below_drew1)))⟩
          | false =>
          have c2' : ((rd_T50 x.recs k).f2 == (rd_T50 y.recs k).f2) = true := by simpa using c2
          have hcmp : recB (rd_T50 x.recs k) (rd_T50 y.recs k) = true := by
            unfold recB
            rw [c0', c1', c2', c3]; rfl
          have HC := Aside0.mk hcmp
          clear hcmp
          have HP := Aside0.mk hpure
          clear hpure
          go_wp2_with (go_at_call 21; refine (busbarref01_Words.calls kk _ _ (rd_T50 x.recs k).f3 _ _ (rd_T50 y.recs k).f3 _ _ (by repeat (first | exact (Kd.C_below HX.out HW.out) | (with_reducible refine Kd.C_alloc ?_ _) | (with_reducible refine Kd.C_drewN ?_ _) | (with_reducible refine Kd.C_drew ?_))) gA (by repeat (first | exact (Kd.C_below HY.out HW.out) | (with_reducible refine Kd.C_alloc ?_ _) | (with_reducible refine Kd.C_drewN ?_ _) | (with_reducible refine Kd.C_drew ?_))) gB HP.out).mono ?_; rintro e w2 ⟨rfl, ⟨nd4, rfl⟩⟩)
          go_roundw
          case rel => exact ⟨k + 1, by omega, by go_num, ⟨by rw [HL.out, HD.out, HC.out]; rfl⟩, ⟨(by repeat (first | exact HW.out | (with_reducible first | apply below_alloc | apply pw_below_drewN | apply below_drew1)))⟩, ⟨(by repeat (first | exact HV.out | (with_reducible first | apply below_alloc | apply pw_below_drewN | apply below_drew1)))⟩⟩
          case measure => simp [intOf]; omega
        · have e1 : x.recs.drop k = [] := List.drop_eq_nil_of_le (by omega)
          have e2 : y.recs.drop k = [] := List.drop_eq_nil_of_le (by have := Lrecs.out; omega)
          have HT : listB recB x.recs y.recs = true := by rw [HL.out, e1, e2]; rfl
          have HTT := Aside0.mk HT
          clear HT e1 e2 HL
          obtain ⟨we, hwe⟩ : ∃ we, we = wr := ⟨_, rfl⟩
          subst hwe
          go_wp2
          go_loopw [12] (fun i wr2 => ∃ k : Nat, k ≤ x.objects.length ∧ i = .int .i64 k ∧ Aside0 (listB objB x.objects y.objects = listB objB (x.objects.drop k) (y.objects.drop k)) ∧ Aside0 (Below w.heap.size w wr2) ∧ Aside0 (Below we.heap.size we wr2)) (fun i _ => x.objects.length - (intOf i).toNat)
          case atStart => exact ⟨0, Nat.zero_le _, rfl, ⟨rfl⟩, ⟨(by repeat (first | exact HW.out | (with_reducible first | apply below_alloc | apply pw_below_drewN | apply below_drew1)))⟩, ⟨(by repeat (first | exact Below.refl _ _ | (with_reducible first | apply below_alloc | apply pw_below_drewN | apply below_drew1)))⟩⟩
          case round =>
            obtain ⟨k2, hk2, rfl, HL2, HW2, HV2⟩ := hrel
            have ux21 := (HV2.out.cell (World.block_lt_of_cell? we _ qx21)).trans qx21
            have uy21 := (HV2.out.cell (World.block_lt_of_cell? we _ qy21)).trans qy21
            clear qx15 qx21 qy15 qy21
            have hll2 : x.objects.length ≤ 9223372036854775807 := HRx21.out.2.1
            by_cases hlt2 : k2 < x.objects.length
            · have hlt3 : k2 < y.objects.length := by rw [← Lobjects.out]; exact hlt2
              obtain ⟨adA, A1, cA1, rfl, x0, x1, gA2, qA⟩ := at_T52 HRx21.out (k2 : Int) (by omega) (by omega)
              obtain ⟨adB, B1, cB1, rfl, y0, y1, gB2, qB⟩ := at_T52 HRy21.out (k2 : Int) (by omega) (by omega)
              have rx0 := (HW2.out.cell (World.block_lt_of_cell? w _ x0)).trans x0
              rw [Int.toNat_natCast] at rx0
              clear x0
              have rx1 := (HW2.out.cell (World.block_lt_of_cell? w _ x1)).trans x1
              rw [Int.toNat_natCast] at rx1
              clear x1
              have ry0 := (HW2.out.cell (World.block_lt_of_cell? w _ y0)).trans y0
              rw [Int.toNat_natCast] at ry0
              clear y0
              have ry1 := (HW2.out.cell (World.block_lt_of_cell? w _ y1)).trans y1
              rw [Int.toNat_natCast] at ry1
              clear y1
              have hdrop : listB objB (x.objects.drop k2) (y.objects.drop k2) = (objB (rd_T52 x.objects k2) (rd_T52 y.objects k2) && listB objB (x.objects.drop (k2 + 1)) (y.objects.drop (k2 + 1))) := by
                rw [drop_cons hlt2 z52, drop_cons hlt3 z52]; rfl
              have HD2 := Aside0.mk hdrop
              clear hdrop
              have HX2 := Aside0.mk qA
              have HY2 := Aside0.mk qB
              clear qA qB
              have bx : isBytes (rd_T52 x.objects k2).f1 := u8_bytes (by unfold rd_T52; rw [Int.toNat_natCast, List.getD_eq_getElem?_getD, List.getElem?_eq_getElem hlt2]; exact ox.out _ (List.getElem_mem hlt2))
              have by_ : isBytes (rd_T52 y.objects k2).f1 := u8_bytes (by unfold rd_T52; rw [Int.toNat_natCast, List.getD_eq_getElem?_getD, List.getElem?_eq_getElem hlt3]; exact oy.out _ (List.getElem_mem hlt3))
              have hpure2 := R01.same_eq bx by_
              clear bx by_
              cases c1 : ((rd_T52 x.objects k2).f1 == (rd_T52 y.objects k2).f1) with
              | false =>
                rw [c1] at hpure2
                have hcmp : objB (rd_T52 x.objects k2) (rd_T52 y.objects k2) = false := by
                  unfold objB
                  simp [c1]
                have HC2 := Aside0.mk hcmp
                clear hcmp
                have HP2 := Aside0.mk hpure2
                clear hpure2
                go_wp2
                refine start_ (n := 14) (S := fun w' => w'.cell? ⟨w.heap.size, 21, none⟩ = some (.slice (some adA) x.objects.length cx21) ∧ w'.cell? ⟨w.heap.size + 1, 21, none⟩ = some (.slice (some adB) y.objects.length cy21) ∧ w'.cell? (adA.add (k2 * 2)) = some (.int .u8 (rd_T52 x.objects k2).f0) ∧ w'.cell? (adB.add (k2 * 2)) = some (.int .u8 (rd_T52 y.objects k2).f0) ∧ w'.cell? ⟨(adA.add (k2 * 2)).block, (adA.add (k2 * 2)).off + 1, none⟩ = some (.slice A1 (rd_T52 x.objects k2).f1.length cA1) ∧ w'.cell? ⟨(adB.add (k2 * 2)).block, (adB.add (k2 * 2)).off + 1, none⟩ = some (.slice B1 (rd_T52 y.objects k2).f1.length cB1) ∧ Aside0 (Below w.heap.size w w')) (ds := []) (bm 14 0) (by as_aux_lemma => kernel_rfl) rfl (by as_aux_lemma => kernel_rfl) ⟨ux21, uy21, rx0, ry0, rx1, ry1, (Aside0.mk (by repeat (first | exact HW2.out | (with_reducible first | apply below_alloc | apply pw_below_drewN | apply below_drew1))))⟩ (fun hHeld => ?_)
                refine with_tabW refs.tab21 refs.bits21 (fun HT_ HW_ => ?_)
                refine pure_ (i := 0) (N := some 224) (v := ?_) (a' := ?_) (bm 14 1) rfl rfl (any_of HT_.out (by as_aux_lemma => kernel_rfl)) (fun _ _ _ h => h) (Or.inl ⟨by rfl, ?_⟩) ?_ ?_
                rotate_left
                · intro w'
                  go_simp
                  with_reducible rfl
                rotate_left
                · simp only [Act.put, List.setIfInBounds_toArray, List.set_cons_zero, List.set_cons_succ, i64_w, i32_w]
                  rfl
                refine pure_ (i := 2) (N := some 226) (v := ?_) (a' := ?_) (bm 14 5) rfl rfl (any_of HT_.out (by as_aux_lemma => kernel_rfl)) (fun _ _ _ h => h) (Or.inl ⟨by rfl, ?_⟩) ?_ ?_
                rotate_left
                · intro w'
                  go_simp
                  with_reducible rfl
                rotate_left
                · simp only [Act.put, List.setIfInBounds_toArray, List.set_cons_zero, List.set_cons_succ, i64_w, i32_w]
                  rfl
                refine pure_ (i := 6) (N := some 230) (v := ?_) (a' := ?_) (bm 14 69) rfl rfl (any_of HT_.out (by as_aux_lemma => kernel_rfl)) (fun _ _ _ h => h) (Or.inl ⟨by rfl, ?_⟩) ?_ ?_
                rotate_left
                · intro w'
                  go_simp
                  with_reducible rfl
                rotate_left
                · simp only [Act.put, List.setIfInBounds_toArray, List.set_cons_zero, List.set_cons_succ, i64_w, i32_w]
                  rfl
                refine pure_ (i := 8) (N := some 232) (v := ?_) (a' := ?_) (bm 14 325) rfl rfl (any_of HT_.out (by as_aux_lemma => kernel_rfl)) (fun _ _ _ h => h) (Or.inl ⟨by rfl, ?_⟩) ?_ ?_
                rotate_left
                · intro w'
                  go_simp
                  with_reducible rfl
                rotate_left
                · simp only [Act.put, List.setIfInBounds_toArray, List.set_cons_zero, List.set_cons_succ, i64_w, i32_w]
                  rfl
                refine take_ (i := 1) (N := some 225) (v := ?_) (a' := ?_) (bm 14 327) rfl rfl (take_ofW HT_.out HW_.out (by as_aux_lemma => kernel_rfl)) (fun _ _ _ h => h) (Or.inl ⟨by rfl, ?_⟩) hHeld ?_ ?_
                rotate_left
                · rintro w' ⟨s0, s1, s2, s3, s4, s5, s6⟩
                  go_simp
                  with_reducible rfl
                rotate_left
                · simp only [Act.put, List.setIfInBounds_toArray, List.set_cons_zero, List.set_cons_succ, i64_w, i32_w]
                  rfl
                refine pure_ (i := 3) (N := some 227) (v := ?_) (a' := ?_) (bm 14 335) rfl rfl (any_of HT_.out (by as_aux_lemma => kernel_rfl)) (fun _ _ _ h => h) (Or.inl ⟨by rfl, ?_⟩) ?_ ?_
                rotate_left
                · intro w'
                  go_simp
                  with_reducible rfl
                rotate_left
                · simp only [Act.put, List.setIfInBounds_toArray, List.set_cons_zero, List.set_cons_succ, i64_w, i32_w]
                  rfl
                refine pure_ (i := 4) (N := some 228) (v := ?_) (a' := ?_) (bm 14 351) rfl rfl (any_of HT_.out (by as_aux_lemma => kernel_rfl)) (fun _ _ _ h => h) (Or.inl ⟨by rfl, ?_⟩) ?_ ?_
                rotate_left
                · intro w'
                  go_simp
                  with_reducible rfl
                rotate_left
                · simp only [Act.put, List.setIfInBounds_toArray, List.set_cons_zero, List.set_cons_succ, i64_w, i32_w]
                  rfl
                refine take_ (i := 5) (N := some 229) (v := ?_) (a' := ?_) (bm 14 383) rfl rfl (take_ofW HT_.out HW_.out (by as_aux_lemma => kernel_rfl)) (fun _ _ _ h => h) (Or.inl ⟨by rfl, ?_⟩) hHeld ?_ ?_
                rotate_left
                · rintro w' ⟨s0, s1, s2, s3, s4, s5, s6⟩
                  go_simp
                  with_reducible rfl
                rotate_left
                · simp only [Act.put, List.setIfInBounds_toArray, List.set_cons_zero, List.set_cons_succ, i64_w, i32_w]
                  rfl
                refine take_ (i := 7) (N := some 231) (v := ?_) (a' := ?_) (bm 14 511) rfl rfl (take_ofW HT_.out HW_.out (by as_aux_lemma => kernel_rfl)) (fun _ _ _ h => h) (Or.inl ⟨by rfl, ?_⟩) hHeld ?_ ?_
                rotate_left
                · rintro w' ⟨s0, s1, s2, s3, s4, s5, s6⟩
                  go_simp
                  with_reducible rfl
                rotate_left
                · simp only [Act.put, List.setIfInBounds_toArray, List.set_cons_zero, List.set_cons_succ, i64_w, i32_w]
                  rfl
                refine pure_ (i := 9) (N := some 233) (v := ?_) (a' := ?_) (bm 14 1023) rfl rfl (any_of HT_.out (by as_aux_lemma => kernel_rfl)) (fun _ _ _ h => h) (Or.inl ⟨by rfl, ?_⟩) ?_ ?_
                rotate_left
                · intro w'
                  go_simp
                  with_reducible rfl
                rotate_left
                · simp only [Act.put, List.setIfInBounds_toArray, List.set_cons_zero, List.set_cons_succ, i64_w, i32_w]
                  rfl
                refine pure_ (i := 10) (N := some 234) (v := ?_) (a' := ?_) (bm 14 2047) rfl rfl (any_of HT_.out (by as_aux_lemma => kernel_rfl)) (fun _ _ _ h => h) (Or.inl ⟨by rfl, ?_⟩) ?_ ?_
                rotate_left
                · intro w'
                  go_simp
                  with_reducible rfl
                rotate_left
                · simp only [Act.put, List.setIfInBounds_toArray, List.set_cons_zero, List.set_cons_succ, i64_w, i32_w]
                  rfl
                refine take_ (i := 11) (N := some 235) (v := ?_) (a' := ?_) (bm 14 4095) rfl rfl (take_ofW HT_.out HW_.out (by as_aux_lemma => kernel_rfl)) (fun _ _ _ h => h) (Or.inl ⟨by rfl, ?_⟩) hHeld ?_ ?_
                rotate_left
                · rintro w' ⟨s0, s1, s2, s3, s4, s5, s6⟩
                  go_simp
                  with_reducible rfl
                rotate_left
                · simp only [Act.put, List.setIfInBounds_toArray, List.set_cons_zero, List.set_cons_succ, i64_w, i32_w]
                  rfl
                refine one_ (i := 12) (N := some 236) (bm 14 8191) rfl rfl (one_of HT_.out (by as_aux_lemma => kernel_rfl)) (by as_aux_lemma => decide) (fun K hK => ?_)
                refine goes_ Try.func15 (by as_aux_lemma => kernel_rfl) rfl #[.slice A1 (rd_T52 x.objects k2).f1.length cA1, .slice B1 (rd_T52 y.objects k2).f1.length cB1] (by rfl) rfl rfl (by simp only [List.map_toArray, List.map_cons, List.map_nil]; rfl) ?_
                with_reducible refine (busbarref01_Same.calls _ _ (rd_T52 x.objects k2).f1 _ _ (rd_T52 y.objects k2).f1 _ _ (Kd.C_below HX2.out hHeld.2.2.2.2.2.2.out) gA2 (Kd.C_below HY2.out hHeld.2.2.2.2.2.2.out) gB2 HP2.out).mono ?_
                rintro e w5 ⟨rfl, ⟨nd5, rfl⟩⟩
                refine ⟨_, rfl, ?_⟩
                refine hK.out _ _ ⟨hHeld.1, hHeld.2.1, hHeld.2.2.1, hHeld.2.2.2.1, hHeld.2.2.2.2.1, hHeld.2.2.2.2.2.1, (Aside0.mk (pw_below_drewN hHeld.2.2.2.2.2.2.out _))⟩ (fun hHeld => ?_)
                clear hK K
                refine norm_ (a' := ?_) ?_ ?_
                rotate_left
                · show Act.put _ (some 236) _ = _
                  simp only [Act.put, List.setIfInBounds_toArray, List.set_cons_zero, List.set_cons_succ, i64_w, i32_w]
                  rfl
                refine pure_ (i := 13) (N := some 13) (v := ?_) (a' := ?_) (bm 14 16383) rfl rfl (any_of HT_.out (by as_aux_lemma => kernel_rfl)) (fun _ _ _ h => h) (Or.inl ⟨by rfl, ?_⟩) ?_ ?_
                rotate_left
                · intro w'
                  go_simp
                  with_reducible rfl
                rotate_left
                · simp only [Act.put, List.setIfInBounds_toArray, List.set_cons_zero, List.set_cons_succ, i64_w, i32_w]
                  rfl
                refine done_ (done_of HT_.out (by as_aux_lemma => kernel_rfl)) ?_
                
                go_wp2
                refine start_ (n := 17) (S := fun w' => w'.cell? ⟨w.heap.size, 21, none⟩ = some (.slice (some adA) x.objects.length cx21) ∧ w'.cell? ⟨w.heap.size + 1, 21, none⟩ = some (.slice (some adB) y.objects.length cy21) ∧ w'.cell? (adA.add (k2 * 2)) = some (.int .u8 (rd_T52 x.objects k2).f0) ∧ w'.cell? (adB.add (k2 * 2)) = some (.int .u8 (rd_T52 y.objects k2).f0) ∧ w'.cell? ⟨(adA.add (k2 * 2)).block, (adA.add (k2 * 2)).off + 1, none⟩ = some (.slice A1 (rd_T52 x.objects k2).f1.length cA1) ∧ w'.cell? ⟨(adB.add (k2 * 2)).block, (adB.add (k2 * 2)).off + 1, none⟩ = some (.slice B1 (rd_T52 y.objects k2).f1.length cB1) ∧ Aside0 (Below w.heap.size w w')) (ds := []) (bm 17 0) (by as_aux_lemma => kernel_rfl) rfl (by as_aux_lemma => kernel_rfl) ⟨ux21, uy21, rx0, ry0, rx1, ry1, (Aside0.mk (by repeat (first | exact HW2.out | (with_reducible first | apply below_alloc | apply pw_below_drewN | apply below_drew1))))⟩ (fun hHeld => ?_)
                refine with_tabW refs.tab22 refs.bits22 (fun HT_ HW_ => ?_)
                refine pure_ (i := 0) (N := some 237) (v := ?_) (a' := ?_) (bm 17 1) rfl rfl (any_of HT_.out (by as_aux_lemma => kernel_rfl)) (fun _ _ _ h => h) (Or.inl ⟨by rfl, ?_⟩) ?_ ?_
                rotate_left
                · intro w'
                  go_simp
                  with_reducible rfl
                rotate_left
                · simp only [Act.put, List.setIfInBounds_toArray, List.set_cons_zero, List.set_cons_succ, i64_w, i32_w]
                  rfl
                refine pure_ (i := 1) (N := some 238) (v := ?_) (a' := ?_) (bm 17 3) rfl rfl (any_of HT_.out (by as_aux_lemma => kernel_rfl)) (fun _ _ _ h => h) (Or.inl ⟨by rfl, ?_⟩) ?_ ?_
                rotate_left
                · intro w'
                  go_simp
                  with_reducible rfl
                rotate_left
                · simp only [Act.put, List.setIfInBounds_toArray, List.set_cons_zero, List.set_cons_succ, i64_w, i32_w]
                  rfl
                refine pure_ (i := 2) (N := some 239) (v := ?_) (a' := ?_) (bm 17 7) rfl rfl (any_of HT_.out (by as_aux_lemma => kernel_rfl)) (fun _ _ _ h => h) (Or.inl ⟨by rfl, ?_⟩) ?_ ?_
                rotate_left
                · intro w'
                  go_simp
                  with_reducible rfl
                rotate_left
                · simp only [Act.put, List.setIfInBounds_toArray, List.set_cons_zero, List.set_cons_succ, i64_w, i32_w]
                  rfl
                refine pure_ (i := 3) (N := some 240) (v := undef) (a' := ?_) (bm 17 15) rfl rfl (any_of HT_.out (by as_aux_lemma => kernel_rfl)) (fun _ _ _ h => h) (Or.inr ⟨by rfl, rfl⟩) ?_ ?_
                rotate_left
                · simp only [Act.put, List.setIfInBounds_toArray, List.set_cons_zero, List.set_cons_succ, i64_w, i32_w]
                  rfl
                refine pure_ (i := 4) (N := some 241) (v := undef) (a' := ?_) (bm 17 31) rfl rfl (any_of HT_.out (by as_aux_lemma => kernel_rfl)) (fun _ _ _ h => h) (Or.inr ⟨by rfl, rfl⟩) ?_ ?_
                rotate_left
                · simp only [Act.put, List.setIfInBounds_toArray, List.set_cons_zero, List.set_cons_succ, i64_w, i32_w]
                  rfl
                refine pure_ (i := 5) (N := some 242) (v := undef) (a' := ?_) (bm 17 63) rfl rfl (any_of HT_.out (by as_aux_lemma => kernel_rfl)) (fun _ _ _ h => h) (Or.inr ⟨by rfl, rfl⟩) ?_ ?_
                rotate_left
                · simp only [Act.put, List.setIfInBounds_toArray, List.set_cons_zero, List.set_cons_succ, i64_w, i32_w]
                  rfl
                refine pure_ (i := 6) (N := some 243) (v := undef) (a' := ?_) (bm 17 127) rfl rfl (any_of HT_.out (by as_aux_lemma => kernel_rfl)) (fun _ _ _ h => h) (Or.inr ⟨by rfl, rfl⟩) ?_ ?_
                rotate_left
                · simp only [Act.put, List.setIfInBounds_toArray, List.set_cons_zero, List.set_cons_succ, i64_w, i32_w]
                  rfl
                refine pure_ (i := 7) (N := some 244) (v := undef) (a' := ?_) (bm 17 255) rfl rfl (any_of HT_.out (by as_aux_lemma => kernel_rfl)) (fun _ _ _ h => h) (Or.inr ⟨by rfl, rfl⟩) ?_ ?_
                rotate_left
                · simp only [Act.put, List.setIfInBounds_toArray, List.set_cons_zero, List.set_cons_succ, i64_w, i32_w]
                  rfl
                refine pure_ (i := 8) (N := some 245) (v := undef) (a' := ?_) (bm 17 511) rfl rfl (any_of HT_.out (by as_aux_lemma => kernel_rfl)) (fun _ _ _ h => h) (Or.inr ⟨by rfl, rfl⟩) ?_ ?_
                rotate_left
                · simp only [Act.put, List.setIfInBounds_toArray, List.set_cons_zero, List.set_cons_succ, i64_w, i32_w]
                  rfl
                refine pure_ (i := 9) (N := some 246) (v := undef) (a' := ?_) (bm 17 1023) rfl rfl (any_of HT_.out (by as_aux_lemma => kernel_rfl)) (fun _ _ _ h => h) (Or.inr ⟨by rfl, rfl⟩) ?_ ?_
                rotate_left
                · simp only [Act.put, List.setIfInBounds_toArray, List.set_cons_zero, List.set_cons_succ, i64_w, i32_w]
                  rfl
                refine pure_ (i := 10) (N := some 247) (v := undef) (a' := ?_) (bm 17 2047) rfl rfl (any_of HT_.out (by as_aux_lemma => kernel_rfl)) (fun _ _ _ h => h) (Or.inr ⟨by rfl, rfl⟩) ?_ ?_
                rotate_left
                · simp only [Act.put, List.setIfInBounds_toArray, List.set_cons_zero, List.set_cons_succ, i64_w, i32_w]
                  rfl
                refine pure_ (i := 11) (N := some 248) (v := undef) (a' := ?_) (bm 17 4095) rfl rfl (any_of HT_.out (by as_aux_lemma => kernel_rfl)) (fun _ _ _ h => h) (Or.inr ⟨by rfl, rfl⟩) ?_ ?_
                rotate_left
                · simp only [Act.put, List.setIfInBounds_toArray, List.set_cons_zero, List.set_cons_succ, i64_w, i32_w]
                  rfl
                refine pure_ (i := 12) (N := some 249) (v := undef) (a' := ?_) (bm 17 8191) rfl rfl (any_of HT_.out (by as_aux_lemma => kernel_rfl)) (fun _ _ _ h => h) (Or.inr ⟨by rfl, rfl⟩) ?_ ?_
                rotate_left
                · simp only [Act.put, List.setIfInBounds_toArray, List.set_cons_zero, List.set_cons_succ, i64_w, i32_w]
                  rfl
                refine pure_ (i := 13) (N := some 250) (v := undef) (a' := ?_) (bm 17 16383) rfl rfl (any_of HT_.out (by as_aux_lemma => kernel_rfl)) (fun _ _ _ h => h) (Or.inr ⟨by rfl, rfl⟩) ?_ ?_
                rotate_left
                · simp only [Act.put, List.setIfInBounds_toArray, List.set_cons_zero, List.set_cons_succ, i64_w, i32_w]
                  rfl
                refine pure_ (i := 14) (N := some 251) (v := undef) (a' := ?_) (bm 17 32767) rfl rfl (any_of HT_.out (by as_aux_lemma => kernel_rfl)) (fun _ _ _ h => h) (Or.inr ⟨by rfl, rfl⟩) ?_ ?_
                rotate_left
                · simp only [Act.put, List.setIfInBounds_toArray, List.set_cons_zero, List.set_cons_succ, i64_w, i32_w]
                  rfl
                refine pure_ (i := 15) (N := some 252) (v := undef) (a' := ?_) (bm 17 65535) rfl rfl (any_of HT_.out (by as_aux_lemma => kernel_rfl)) (fun _ _ _ h => h) (Or.inr ⟨by rfl, rfl⟩) ?_ ?_
                rotate_left
                · simp only [Act.put, List.setIfInBounds_toArray, List.set_cons_zero, List.set_cons_succ, i64_w, i32_w]
                  rfl
                refine pure_ (i := 16) (N := some 253) (v := ?_) (a' := ?_) (bm 17 131071) rfl rfl (any_of HT_.out (by as_aux_lemma => kernel_rfl)) (fun _ _ _ h => h) (Or.inl ⟨by rfl, ?_⟩) ?_ ?_
                rotate_left
                · intro w'
                  go_simp
                  with_reducible rfl
                rotate_left
                · simp only [Act.put, List.setIfInBounds_toArray, List.set_cons_zero, List.set_cons_succ, i64_w, i32_w]
                  rfl
                refine done_ (done_of HT_.out (by as_aux_lemma => kernel_rfl)) ?_
                
                go_wp2
                go_ret
                exact ⟨by rw [HTT.out, HL2.out, HD2.out, HC2.out]; rfl, (by repeat (first | exact HW2.out | (with_reducible first | apply below_alloc | apply pw_below_drewN | apply below_drew1)))⟩
              | true =>
              rw [c1] at hpure2
              cases c0 : ((rd_T52 x.objects k2).f0 != (rd_T52 y.objects k2).f0) with
              | true =>
                have c0' : ((rd_T52 x.objects k2).f0 == (rd_T52 y.objects k2).f0) = false := by simpa using c0
                have hcmp : objB (rd_T52 x.objects k2) (rd_T52 y.objects k2) = false := by
                  unfold objB
                  simp [c0']
                have HC2 := Aside0.mk hcmp
                clear hcmp
                have HP2 := Aside0.mk hpure2
                clear hpure2
                go_wp2
                refine start_ (n := 14) (S := fun w' => w'.cell? ⟨w.heap.size, 21, none⟩ = some (.slice (some adA) x.objects.length cx21) ∧ w'.cell? ⟨w.heap.size + 1, 21, none⟩ = some (.slice (some adB) y.objects.length cy21) ∧ w'.cell? (adA.add (k2 * 2)) = some (.int .u8 (rd_T52 x.objects k2).f0) ∧ w'.cell? (adB.add (k2 * 2)) = some (.int .u8 (rd_T52 y.objects k2).f0) ∧ w'.cell? ⟨(adA.add (k2 * 2)).block, (adA.add (k2 * 2)).off + 1, none⟩ = some (.slice A1 (rd_T52 x.objects k2).f1.length cA1) ∧ w'.cell? ⟨(adB.add (k2 * 2)).block, (adB.add (k2 * 2)).off + 1, none⟩ = some (.slice B1 (rd_T52 y.objects k2).f1.length cB1) ∧ Aside0 (Below w.heap.size w w')) (ds := []) (bm 14 0) (by as_aux_lemma => kernel_rfl) rfl (by as_aux_lemma => kernel_rfl) ⟨ux21, uy21, rx0, ry0, rx1, ry1, (Aside0.mk (by repeat (first | exact HW2.out | (with_reducible first | apply below_alloc | apply pw_below_drewN | apply below_drew1))))⟩ (fun hHeld => ?_)
                refine with_tabW refs.tab21 refs.bits21 (fun HT_ HW_ => ?_)
                refine pure_ (i := 0) (N := some 224) (v := ?_) (a' := ?_) (bm 14 1) rfl rfl (any_of HT_.out (by as_aux_lemma => kernel_rfl)) (fun _ _ _ h => h) (Or.inl ⟨by rfl, ?_⟩) ?_ ?_
                rotate_left
                · intro w'
                  go_simp
                  with_reducible rfl
                rotate_left
                · simp only [Act.put, List.setIfInBounds_toArray, List.set_cons_zero, List.set_cons_succ, i64_w, i32_w]
                  rfl
                refine pure_ (i := 2) (N := some 226) (v := ?_) (a' := ?_) (bm 14 5) rfl rfl (any_of HT_.out (by as_aux_lemma => kernel_rfl)) (fun _ _ _ h => h) (Or.inl ⟨by rfl, ?_⟩) ?_ ?_
                rotate_left
                · intro w'
                  go_simp
                  with_reducible rfl
                rotate_left
                · simp only [Act.put, List.setIfInBounds_toArray, List.set_cons_zero, List.set_cons_succ, i64_w, i32_w]
                  rfl
                refine pure_ (i := 6) (N := some 230) (v := ?_) (a' := ?_) (bm 14 69) rfl rfl (any_of HT_.out (by as_aux_lemma => kernel_rfl)) (fun _ _ _ h => h) (Or.inl ⟨by rfl, ?_⟩) ?_ ?_
                rotate_left
                · intro w'
                  go_simp
                  with_reducible rfl
                rotate_left
                · simp only [Act.put, List.setIfInBounds_toArray, List.set_cons_zero, List.set_cons_succ, i64_w, i32_w]
                  rfl
                refine pure_ (i := 8) (N := some 232) (v := ?_) (a' := ?_) (bm 14 325) rfl rfl (any_of HT_.out (by as_aux_lemma => kernel_rfl)) (fun _ _ _ h => h) (Or.inl ⟨by rfl, ?_⟩) ?_ ?_
                rotate_left
                · intro w'
                  go_simp
                  with_reducible rfl
                rotate_left
                · simp only [Act.put, List.setIfInBounds_toArray, List.set_cons_zero, List.set_cons_succ, i64_w, i32_w]
                  rfl
                refine take_ (i := 1) (N := some 225) (v := ?_) (a' := ?_) (bm 14 327) rfl rfl (take_ofW HT_.out HW_.out (by as_aux_lemma => kernel_rfl)) (fun _ _ _ h => h) (Or.inl ⟨by rfl, ?_⟩) hHeld ?_ ?_
                rotate_left
                · rintro w' ⟨s0, s1, s2, s3, s4, s5, s6⟩
                  go_simp
                  with_reducible rfl
                rotate_left
                · simp only [Act.put, List.setIfInBounds_toArray, List.set_cons_zero, List.set_cons_succ, i64_w, i32_w]
                  rfl
                refine pure_ (i := 3) (N := some 227) (v := ?_) (a' := ?_) (bm 14 335) rfl rfl (any_of HT_.out (by as_aux_lemma => kernel_rfl)) (fun _ _ _ h => h) (Or.inl ⟨by rfl, ?_⟩) ?_ ?_
                rotate_left
                · intro w'
                  go_simp
                  with_reducible rfl
                rotate_left
                · simp only [Act.put, List.setIfInBounds_toArray, List.set_cons_zero, List.set_cons_succ, i64_w, i32_w]
                  rfl
                refine pure_ (i := 4) (N := some 228) (v := ?_) (a' := ?_) (bm 14 351) rfl rfl (any_of HT_.out (by as_aux_lemma => kernel_rfl)) (fun _ _ _ h => h) (Or.inl ⟨by rfl, ?_⟩) ?_ ?_
                rotate_left
                · intro w'
                  go_simp
                  with_reducible rfl
                rotate_left
                · simp only [Act.put, List.setIfInBounds_toArray, List.set_cons_zero, List.set_cons_succ, i64_w, i32_w]
                  rfl
                refine take_ (i := 5) (N := some 229) (v := ?_) (a' := ?_) (bm 14 383) rfl rfl (take_ofW HT_.out HW_.out (by as_aux_lemma => kernel_rfl)) (fun _ _ _ h => h) (Or.inl ⟨by rfl, ?_⟩) hHeld ?_ ?_
                rotate_left
                · rintro w' ⟨s0, s1, s2, s3, s4, s5, s6⟩
                  go_simp
                  with_reducible rfl
                rotate_left
                · simp only [Act.put, List.setIfInBounds_toArray, List.set_cons_zero, List.set_cons_succ, i64_w, i32_w]
                  rfl
                refine take_ (i := 7) (N := some 231) (v := ?_) (a' := ?_) (bm 14 511) rfl rfl (take_ofW HT_.out HW_.out (by as_aux_lemma => kernel_rfl)) (fun _ _ _ h => h) (Or.inl ⟨by rfl, ?_⟩) hHeld ?_ ?_
                rotate_left
                · rintro w' ⟨s0, s1, s2, s3, s4, s5, s6⟩
                  go_simp
                  with_reducible rfl
                rotate_left
                · simp only [Act.put, List.setIfInBounds_toArray, List.set_cons_zero, List.set_cons_succ, i64_w, i32_w]
                  rfl
                refine pure_ (i := 9) (N := some 233) (v := ?_) (a' := ?_) (bm 14 1023) rfl rfl (any_of HT_.out (by as_aux_lemma => kernel_rfl)) (fun _ _ _ h => h) (Or.inl ⟨by rfl, ?_⟩) ?_ ?_
                rotate_left
                · intro w'
                  go_simp
                  with_reducible rfl
                rotate_left
                · simp only [Act.put, List.setIfInBounds_toArray, List.set_cons_zero, List.set_cons_succ, i64_w, i32_w]
                  rfl
                refine pure_ (i := 10) (N := some 234) (v := ?_) (a' := ?_) (bm 14 2047) rfl rfl (any_of HT_.out (by as_aux_lemma => kernel_rfl)) (fun _ _ _ h => h) (Or.inl ⟨by rfl, ?_⟩) ?_ ?_
                rotate_left
                · intro w'
                  go_simp
                  with_reducible rfl
                rotate_left
                · simp only [Act.put, List.setIfInBounds_toArray, List.set_cons_zero, List.set_cons_succ, i64_w, i32_w]
                  rfl
                refine take_ (i := 11) (N := some 235) (v := ?_) (a' := ?_) (bm 14 4095) rfl rfl (take_ofW HT_.out HW_.out (by as_aux_lemma => kernel_rfl)) (fun _ _ _ h => h) (Or.inl ⟨by rfl, ?_⟩) hHeld ?_ ?_
                rotate_left
                · rintro w' ⟨s0, s1, s2, s3, s4, s5, s6⟩
                  go_simp
                  with_reducible rfl
                rotate_left
                · simp only [Act.put, List.setIfInBounds_toArray, List.set_cons_zero, List.set_cons_succ, i64_w, i32_w]
                  rfl
                refine one_ (i := 12) (N := some 236) (bm 14 8191) rfl rfl (one_of HT_.out (by as_aux_lemma => kernel_rfl)) (by as_aux_lemma => decide) (fun K hK => ?_)
                refine goes_ Try.func15 (by as_aux_lemma => kernel_rfl) rfl #[.slice A1 (rd_T52 x.objects k2).f1.length cA1, .slice B1 (rd_T52 y.objects k2).f1.length cB1] (by rfl) rfl rfl (by simp only [List.map_toArray, List.map_cons, List.map_nil]; rfl) ?_
                with_reducible refine (busbarref01_Same.calls _ _ (rd_T52 x.objects k2).f1 _ _ (rd_T52 y.objects k2).f1 _ _ (Kd.C_below HX2.out hHeld.2.2.2.2.2.2.out) gA2 (Kd.C_below HY2.out hHeld.2.2.2.2.2.2.out) gB2 HP2.out).mono ?_
                rintro e w5 ⟨rfl, ⟨nd5, rfl⟩⟩
                refine ⟨_, rfl, ?_⟩
                refine hK.out _ _ ⟨hHeld.1, hHeld.2.1, hHeld.2.2.1, hHeld.2.2.2.1, hHeld.2.2.2.2.1, hHeld.2.2.2.2.2.1, (Aside0.mk (pw_below_drewN hHeld.2.2.2.2.2.2.out _))⟩ (fun hHeld => ?_)
                clear hK K
                refine norm_ (a' := ?_) ?_ ?_
                rotate_left
                · show Act.put _ (some 236) _ = _
                  simp only [Act.put, List.setIfInBounds_toArray, List.set_cons_zero, List.set_cons_succ, i64_w, i32_w]
                  rfl
                refine pure_ (i := 13) (N := some 13) (v := ?_) (a' := ?_) (bm 14 16383) rfl rfl (any_of HT_.out (by as_aux_lemma => kernel_rfl)) (fun _ _ _ h => h) (Or.inl ⟨by rfl, ?_⟩) ?_ ?_
                rotate_left
                · intro w'
                  go_simp
                  with_reducible rfl
                rotate_left
                · simp only [Act.put, List.setIfInBounds_toArray, List.set_cons_zero, List.set_cons_succ, i64_w, i32_w]
                  rfl
                refine done_ (done_of HT_.out (by as_aux_lemma => kernel_rfl)) ?_
                
                go_wp2
                refine start_ (n := 17) (S := fun w' => w'.cell? ⟨w.heap.size, 21, none⟩ = some (.slice (some adA) x.objects.length cx21) ∧ w'.cell? ⟨w.heap.size + 1, 21, none⟩ = some (.slice (some adB) y.objects.length cy21) ∧ w'.cell? (adA.add (k2 * 2)) = some (.int .u8 (rd_T52 x.objects k2).f0) ∧ w'.cell? (adB.add (k2 * 2)) = some (.int .u8 (rd_T52 y.objects k2).f0) ∧ w'.cell? ⟨(adA.add (k2 * 2)).block, (adA.add (k2 * 2)).off + 1, none⟩ = some (.slice A1 (rd_T52 x.objects k2).f1.length cA1) ∧ w'.cell? ⟨(adB.add (k2 * 2)).block, (adB.add (k2 * 2)).off + 1, none⟩ = some (.slice B1 (rd_T52 y.objects k2).f1.length cB1) ∧ Aside0 (Below w.heap.size w w')) (ds := []) (bm 17 0) (by as_aux_lemma => kernel_rfl) rfl (by as_aux_lemma => kernel_rfl) ⟨ux21, uy21, rx0, ry0, rx1, ry1, (Aside0.mk (by repeat (first | exact HW2.out | (with_reducible first | apply below_alloc | apply pw_below_drewN | apply below_drew1))))⟩ (fun hHeld => ?_)
                refine with_tabW refs.tab22 refs.bits22 (fun HT_ HW_ => ?_)
                refine pure_ (i := 0) (N := some 237) (v := ?_) (a' := ?_) (bm 17 1) rfl rfl (any_of HT_.out (by as_aux_lemma => kernel_rfl)) (fun _ _ _ h => h) (Or.inl ⟨by rfl, ?_⟩) ?_ ?_
                rotate_left
                · intro w'
                  go_simp
                  with_reducible rfl
                rotate_left
                · simp only [Act.put, List.setIfInBounds_toArray, List.set_cons_zero, List.set_cons_succ, i64_w, i32_w]
                  rfl
                refine pure_ (i := 1) (N := some 238) (v := ?_) (a' := ?_) (bm 17 3) rfl rfl (any_of HT_.out (by as_aux_lemma => kernel_rfl)) (fun _ _ _ h => h) (Or.inl ⟨by rfl, ?_⟩) ?_ ?_
                rotate_left
                · intro w'
                  go_simp
                  with_reducible rfl
                rotate_left
                · simp only [Act.put, List.setIfInBounds_toArray, List.set_cons_zero, List.set_cons_succ, i64_w, i32_w]
                  rfl
                refine pure_ (i := 2) (N := some 239) (v := ?_) (a' := ?_) (bm 17 7) rfl rfl (any_of HT_.out (by as_aux_lemma => kernel_rfl)) (fun _ _ _ h => h) (Or.inl ⟨by rfl, ?_⟩) ?_ ?_
                rotate_left
                · intro w'
                  go_simp
                  with_reducible rfl
                rotate_left
                · simp only [Act.put, List.setIfInBounds_toArray, List.set_cons_zero, List.set_cons_succ, i64_w, i32_w]
                  rfl
                refine pure_ (i := 3) (N := some 240) (v := ?_) (a' := ?_) (bm 17 15) rfl rfl (any_of HT_.out (by as_aux_lemma => kernel_rfl)) (fun _ _ _ h => h) (Or.inl ⟨by rfl, ?_⟩) ?_ ?_
                rotate_left
                · intro w'
                  go_simp
                  with_reducible rfl
                rotate_left
                · simp only [Act.put, List.setIfInBounds_toArray, List.set_cons_zero, List.set_cons_succ, i64_w, i32_w]
                  rfl
                refine pure_ (i := 5) (N := some 242) (v := ?_) (a' := ?_) (bm 17 47) rfl rfl (any_of HT_.out (by as_aux_lemma => kernel_rfl)) (fun _ _ _ h => h) (Or.inl ⟨by rfl, ?_⟩) ?_ ?_
                rotate_left
                · intro w'
                  go_simp
                  with_reducible rfl
                rotate_left
                · simp only [Act.put, List.setIfInBounds_toArray, List.set_cons_zero, List.set_cons_succ, i64_w, i32_w]
                  rfl
                refine pure_ (i := 9) (N := some 246) (v := ?_) (a' := ?_) (bm 17 559) rfl rfl (any_of HT_.out (by as_aux_lemma => kernel_rfl)) (fun _ _ _ h => h) (Or.inl ⟨by rfl, ?_⟩) ?_ ?_
                rotate_left
                · intro w'
                  go_simp
                  with_reducible rfl
                rotate_left
                · simp only [Act.put, List.setIfInBounds_toArray, List.set_cons_zero, List.set_cons_succ, i64_w, i32_w]
                  rfl
                refine pure_ (i := 11) (N := some 248) (v := ?_) (a' := ?_) (bm 17 2607) rfl rfl (any_of HT_.out (by as_aux_lemma => kernel_rfl)) (fun _ _ _ h => h) (Or.inl ⟨by rfl, ?_⟩) ?_ ?_
                rotate_left
                · intro w'
                  go_simp
                  with_reducible rfl
                rotate_left
                · simp only [Act.put, List.setIfInBounds_toArray, List.set_cons_zero, List.set_cons_succ, i64_w, i32_w]
                  rfl
                refine take_ (i := 4) (N := some 241) (v := ?_) (a' := ?_) (bm 17 2623) rfl rfl (take_ofW HT_.out HW_.out (by as_aux_lemma => kernel_rfl)) (fun _ _ _ h => h) (Or.inl ⟨by rfl, ?_⟩) hHeld ?_ ?_
                rotate_left
                · rintro w' ⟨s0, s1, s2, s3, s4, s5, s6⟩
                  go_simp
                  with_reducible rfl
                rotate_left
                · simp only [Act.put, List.setIfInBounds_toArray, List.set_cons_zero, List.set_cons_succ, i64_w, i32_w]
                  rfl
                refine pure_ (i := 6) (N := some 243) (v := ?_) (a' := ?_) (bm 17 2687) rfl rfl (any_of HT_.out (by as_aux_lemma => kernel_rfl)) (fun _ _ _ h => h) (Or.inl ⟨by rfl, ?_⟩) ?_ ?_
                rotate_left
                · intro w'
                  go_simp
                  with_reducible rfl
                rotate_left
                · simp only [Act.put, List.setIfInBounds_toArray, List.set_cons_zero, List.set_cons_succ, i64_w, i32_w]
                  rfl
                refine pure_ (i := 7) (N := some 244) (v := ?_) (a' := ?_) (bm 17 2815) rfl rfl (any_of HT_.out (by as_aux_lemma => kernel_rfl)) (fun _ _ _ h => h) (Or.inl ⟨by rfl, ?_⟩) ?_ ?_
                rotate_left
                · intro w'
                  go_simp
                  with_reducible rfl
                rotate_left
                · simp only [Act.put, List.setIfInBounds_toArray, List.set_cons_zero, List.set_cons_succ, i64_w, i32_w]
                  rfl
                refine take_ (i := 8) (N := some 245) (v := ?_) (a' := ?_) (bm 17 3071) rfl rfl (take_ofW HT_.out HW_.out (by as_aux_lemma => kernel_rfl)) (fun _ _ _ h => h) (Or.inl ⟨by rfl, ?_⟩) hHeld ?_ ?_
                rotate_left
                · rintro w' ⟨s0, s1, s2, s3, s4, s5, s6⟩
                  go_simp
                  with_reducible rfl
                rotate_left
                · simp only [Act.put, List.setIfInBounds_toArray, List.set_cons_zero, List.set_cons_succ, i64_w, i32_w]
                  rfl
                refine take_ (i := 10) (N := some 247) (v := ?_) (a' := ?_) (bm 17 4095) rfl rfl (take_ofW HT_.out HW_.out (by as_aux_lemma => kernel_rfl)) (fun _ _ _ h => h) (Or.inl ⟨by rfl, ?_⟩) hHeld ?_ ?_
                rotate_left
                · rintro w' ⟨s0, s1, s2, s3, s4, s5, s6⟩
                  go_simp
                  with_reducible rfl
                rotate_left
                · simp only [Act.put, List.setIfInBounds_toArray, List.set_cons_zero, List.set_cons_succ, i64_w, i32_w]
                  rfl
                refine pure_ (i := 12) (N := some 249) (v := ?_) (a' := ?_) (bm 17 8191) rfl rfl (any_of HT_.out (by as_aux_lemma => kernel_rfl)) (fun _ _ _ h => h) (Or.inl ⟨by rfl, ?_⟩) ?_ ?_
                rotate_left
                · intro w'
                  go_simp
                  with_reducible rfl
                rotate_left
                · simp only [Act.put, List.setIfInBounds_toArray, List.set_cons_zero, List.set_cons_succ, i64_w, i32_w]
                  rfl
                refine pure_ (i := 13) (N := some 250) (v := ?_) (a' := ?_) (bm 17 16383) rfl rfl (any_of HT_.out (by as_aux_lemma => kernel_rfl)) (fun _ _ _ h => h) (Or.inl ⟨by rfl, ?_⟩) ?_ ?_
                rotate_left
                · intro w'
                  go_simp
                  with_reducible rfl
                rotate_left
                · simp only [Act.put, List.setIfInBounds_toArray, List.set_cons_zero, List.set_cons_succ, i64_w, i32_w]
                  rfl
                refine take_ (i := 14) (N := some 251) (v := ?_) (a' := ?_) (bm 17 32767) rfl rfl (take_ofW HT_.out HW_.out (by as_aux_lemma => kernel_rfl)) (fun _ _ _ h => h) (Or.inl ⟨by rfl, ?_⟩) hHeld ?_ ?_
                rotate_left
                · rintro w' ⟨s0, s1, s2, s3, s4, s5, s6⟩
                  go_simp
                  with_reducible rfl
                rotate_left
                · simp only [Act.put, List.setIfInBounds_toArray, List.set_cons_zero, List.set_cons_succ, i64_w, i32_w]
                  rfl
                refine pure_ (i := 15) (N := some 252) (v := ?_) (a' := ?_) (bm 17 65535) rfl rfl (any_of HT_.out (by as_aux_lemma => kernel_rfl)) (fun _ _ _ h => h) (Or.inl ⟨by rfl, ?_⟩) ?_ ?_
                rotate_left
                · intro w'
                  go_simp
                  with_reducible rfl
                rotate_left
                · simp only [Act.put, List.setIfInBounds_toArray, List.set_cons_zero, List.set_cons_succ, i64_w, i32_w]
                  rfl
                refine pure_ (i := 16) (N := some 253) (v := ?_) (a' := ?_) (bm 17 131071) rfl rfl (any_of HT_.out (by as_aux_lemma => kernel_rfl)) (fun _ _ _ h => h) (Or.inl ⟨by rfl, ?_⟩) ?_ ?_
                rotate_left
                · intro w'
                  go_simp
                  with_reducible rfl
                rotate_left
                · simp only [Act.put, List.setIfInBounds_toArray, List.set_cons_zero, List.set_cons_succ, i64_w, i32_w]
                  rfl
                refine done_ (done_of HT_.out (by as_aux_lemma => kernel_rfl)) ?_
                
                go_wp2
                go_ret
                exact ⟨by rw [HTT.out, HL2.out, HD2.out, HC2.out]; rfl, (by repeat (first | exact HW2.out | (with_reducible first | apply below_alloc | apply pw_below_drewN | apply below_drew1)))⟩
              | false =>
              have c0' : ((rd_T52 x.objects k2).f0 == (rd_T52 y.objects k2).f0) = true := by simpa using c0
              have hcmp : objB (rd_T52 x.objects k2) (rd_T52 y.objects k2) = true := by
                unfold objB
                rw [c0', c1]; rfl
              have HC2 := Aside0.mk hcmp
              clear hcmp
              have HP2 := Aside0.mk hpure2
              clear hpure2
              go_wp2
              refine start_ (n := 14) (S := fun w' => w'.cell? ⟨w.heap.size, 21, none⟩ = some (.slice (some adA) x.objects.length cx21) ∧ w'.cell? ⟨w.heap.size + 1, 21, none⟩ = some (.slice (some adB) y.objects.length cy21) ∧ w'.cell? (adA.add (k2 * 2)) = some (.int .u8 (rd_T52 x.objects k2).f0) ∧ w'.cell? (adB.add (k2 * 2)) = some (.int .u8 (rd_T52 y.objects k2).f0) ∧ w'.cell? ⟨(adA.add (k2 * 2)).block, (adA.add (k2 * 2)).off + 1, none⟩ = some (.slice A1 (rd_T52 x.objects k2).f1.length cA1) ∧ w'.cell? ⟨(adB.add (k2 * 2)).block, (adB.add (k2 * 2)).off + 1, none⟩ = some (.slice B1 (rd_T52 y.objects k2).f1.length cB1) ∧ Aside0 (Below w.heap.size w w')) (ds := []) (bm 14 0) (by as_aux_lemma => kernel_rfl) rfl (by as_aux_lemma => kernel_rfl) ⟨ux21, uy21, rx0, ry0, rx1, ry1, (Aside0.mk (by repeat (first | exact HW2.out | (with_reducible first | apply below_alloc | apply pw_below_drewN | apply below_drew1))))⟩ (fun hHeld => ?_)
              refine with_tabW refs.tab21 refs.bits21 (fun HT_ HW_ => ?_)
              refine pure_ (i := 0) (N := some 224) (v := ?_) (a' := ?_) (bm 14 1) rfl rfl (any_of HT_.out (by as_aux_lemma => kernel_rfl)) (fun _ _ _ h => h) (Or.inl ⟨by rfl, ?_⟩) ?_ ?_
              rotate_left
              · intro w'
                go_simp
                with_reducible rfl
              rotate_left
              · simp only [Act.put, List.setIfInBounds_toArray, List.set_cons_zero, List.set_cons_succ, i64_w, i32_w]
                rfl
              refine pure_ (i := 2) (N := some 226) (v := ?_) (a' := ?_) (bm 14 5) rfl rfl (any_of HT_.out (by as_aux_lemma => kernel_rfl)) (fun _ _ _ h => h) (Or.inl ⟨by rfl, ?_⟩) ?_ ?_
              rotate_left
              · intro w'
                go_simp
                with_reducible rfl
              rotate_left
              · simp only [Act.put, List.setIfInBounds_toArray, List.set_cons_zero, List.set_cons_succ, i64_w, i32_w]
                rfl
              refine pure_ (i := 6) (N := some 230) (v := ?_) (a' := ?_) (bm 14 69) rfl rfl (any_of HT_.out (by as_aux_lemma => kernel_rfl)) (fun _ _ _ h => h) (Or.inl ⟨by rfl, ?_⟩) ?_ ?_
              rotate_left
              · intro w'
                go_simp
                with_reducible rfl
              rotate_left
              · simp only [Act.put, List.setIfInBounds_toArray, List.set_cons_zero, List.set_cons_succ, i64_w, i32_w]
                rfl
              refine pure_ (i := 8) (N := some 232) (v := ?_) (a' := ?_) (bm 14 325) rfl rfl (any_of HT_.out (by as_aux_lemma => kernel_rfl)) (fun _ _ _ h => h) (Or.inl ⟨by rfl, ?_⟩) ?_ ?_
              rotate_left
              · intro w'
                go_simp
                with_reducible rfl
              rotate_left
              · simp only [Act.put, List.setIfInBounds_toArray, List.set_cons_zero, List.set_cons_succ, i64_w, i32_w]
                rfl
              refine take_ (i := 1) (N := some 225) (v := ?_) (a' := ?_) (bm 14 327) rfl rfl (take_ofW HT_.out HW_.out (by as_aux_lemma => kernel_rfl)) (fun _ _ _ h => h) (Or.inl ⟨by rfl, ?_⟩) hHeld ?_ ?_
              rotate_left
              · rintro w' ⟨s0, s1, s2, s3, s4, s5, s6⟩
                go_simp
                with_reducible rfl
              rotate_left
              · simp only [Act.put, List.setIfInBounds_toArray, List.set_cons_zero, List.set_cons_succ, i64_w, i32_w]
                rfl
              refine pure_ (i := 3) (N := some 227) (v := ?_) (a' := ?_) (bm 14 335) rfl rfl (any_of HT_.out (by as_aux_lemma => kernel_rfl)) (fun _ _ _ h => h) (Or.inl ⟨by rfl, ?_⟩) ?_ ?_
              rotate_left
              · intro w'
                go_simp
                with_reducible rfl
              rotate_left
              · simp only [Act.put, List.setIfInBounds_toArray, List.set_cons_zero, List.set_cons_succ, i64_w, i32_w]
                rfl
              refine pure_ (i := 4) (N := some 228) (v := ?_) (a' := ?_) (bm 14 351) rfl rfl (any_of HT_.out (by as_aux_lemma => kernel_rfl)) (fun _ _ _ h => h) (Or.inl ⟨by rfl, ?_⟩) ?_ ?_
              rotate_left
              · intro w'
                go_simp
                with_reducible rfl
              rotate_left
              · simp only [Act.put, List.setIfInBounds_toArray, List.set_cons_zero, List.set_cons_succ, i64_w, i32_w]
                rfl
              refine take_ (i := 5) (N := some 229) (v := ?_) (a' := ?_) (bm 14 383) rfl rfl (take_ofW HT_.out HW_.out (by as_aux_lemma => kernel_rfl)) (fun _ _ _ h => h) (Or.inl ⟨by rfl, ?_⟩) hHeld ?_ ?_
              rotate_left
              · rintro w' ⟨s0, s1, s2, s3, s4, s5, s6⟩
                go_simp
                with_reducible rfl
              rotate_left
              · simp only [Act.put, List.setIfInBounds_toArray, List.set_cons_zero, List.set_cons_succ, i64_w, i32_w]
                rfl
              refine take_ (i := 7) (N := some 231) (v := ?_) (a' := ?_) (bm 14 511) rfl rfl (take_ofW HT_.out HW_.out (by as_aux_lemma => kernel_rfl)) (fun _ _ _ h => h) (Or.inl ⟨by rfl, ?_⟩) hHeld ?_ ?_
              rotate_left
              · rintro w' ⟨s0, s1, s2, s3, s4, s5, s6⟩
                go_simp
                with_reducible rfl
              rotate_left
              · simp only [Act.put, List.setIfInBounds_toArray, List.set_cons_zero, List.set_cons_succ, i64_w, i32_w]
                rfl
              refine pure_ (i := 9) (N := some 233) (v := ?_) (a' := ?_) (bm 14 1023) rfl rfl (any_of HT_.out (by as_aux_lemma => kernel_rfl)) (fun _ _ _ h => h) (Or.inl ⟨by rfl, ?_⟩) ?_ ?_
              rotate_left
              · intro w'
                go_simp
                with_reducible rfl
              rotate_left
              · simp only [Act.put, List.setIfInBounds_toArray, List.set_cons_zero, List.set_cons_succ, i64_w, i32_w]
                rfl
              refine pure_ (i := 10) (N := some 234) (v := ?_) (a' := ?_) (bm 14 2047) rfl rfl (any_of HT_.out (by as_aux_lemma => kernel_rfl)) (fun _ _ _ h => h) (Or.inl ⟨by rfl, ?_⟩) ?_ ?_
              rotate_left
              · intro w'
                go_simp
                with_reducible rfl
              rotate_left
              · simp only [Act.put, List.setIfInBounds_toArray, List.set_cons_zero, List.set_cons_succ, i64_w, i32_w]
                rfl
              refine take_ (i := 11) (N := some 235) (v := ?_) (a' := ?_) (bm 14 4095) rfl rfl (take_ofW HT_.out HW_.out (by as_aux_lemma => kernel_rfl)) (fun _ _ _ h => h) (Or.inl ⟨by rfl, ?_⟩) hHeld ?_ ?_
              rotate_left
              · rintro w' ⟨s0, s1, s2, s3, s4, s5, s6⟩
                go_simp
                with_reducible rfl
              rotate_left
              · simp only [Act.put, List.setIfInBounds_toArray, List.set_cons_zero, List.set_cons_succ, i64_w, i32_w]
                rfl
              refine one_ (i := 12) (N := some 236) (bm 14 8191) rfl rfl (one_of HT_.out (by as_aux_lemma => kernel_rfl)) (by as_aux_lemma => decide) (fun K hK => ?_)
              refine goes_ Try.func15 (by as_aux_lemma => kernel_rfl) rfl #[.slice A1 (rd_T52 x.objects k2).f1.length cA1, .slice B1 (rd_T52 y.objects k2).f1.length cB1] (by rfl) rfl rfl (by simp only [List.map_toArray, List.map_cons, List.map_nil]; rfl) ?_
              with_reducible refine (busbarref01_Same.calls _ _ (rd_T52 x.objects k2).f1 _ _ (rd_T52 y.objects k2).f1 _ _ (Kd.C_below HX2.out hHeld.2.2.2.2.2.2.out) gA2 (Kd.C_below HY2.out hHeld.2.2.2.2.2.2.out) gB2 HP2.out).mono ?_
              rintro e w5 ⟨rfl, ⟨nd5, rfl⟩⟩
              refine ⟨_, rfl, ?_⟩
              refine hK.out _ _ ⟨hHeld.1, hHeld.2.1, hHeld.2.2.1, hHeld.2.2.2.1, hHeld.2.2.2.2.1, hHeld.2.2.2.2.2.1, (Aside0.mk (pw_below_drewN hHeld.2.2.2.2.2.2.out _))⟩ (fun hHeld => ?_)
              clear hK K
              refine norm_ (a' := ?_) ?_ ?_
              rotate_left
              · show Act.put _ (some 236) _ = _
                simp only [Act.put, List.setIfInBounds_toArray, List.set_cons_zero, List.set_cons_succ, i64_w, i32_w]
                rfl
              refine pure_ (i := 13) (N := some 13) (v := ?_) (a' := ?_) (bm 14 16383) rfl rfl (any_of HT_.out (by as_aux_lemma => kernel_rfl)) (fun _ _ _ h => h) (Or.inl ⟨by rfl, ?_⟩) ?_ ?_
              rotate_left
              · intro w'
                go_simp
                with_reducible rfl
              rotate_left
              · simp only [Act.put, List.setIfInBounds_toArray, List.set_cons_zero, List.set_cons_succ, i64_w, i32_w]
                rfl
              refine done_ (done_of HT_.out (by as_aux_lemma => kernel_rfl)) ?_
              
              go_wp2
              refine start_ (n := 17) (S := fun w' => w'.cell? ⟨w.heap.size, 21, none⟩ = some (.slice (some adA) x.objects.length cx21) ∧ w'.cell? ⟨w.heap.size + 1, 21, none⟩ = some (.slice (some adB) y.objects.length cy21) ∧ w'.cell? (adA.add (k2 * 2)) = some (.int .u8 (rd_T52 x.objects k2).f0) ∧ w'.cell? (adB.add (k2 * 2)) = some (.int .u8 (rd_T52 y.objects k2).f0) ∧ w'.cell? ⟨(adA.add (k2 * 2)).block, (adA.add (k2 * 2)).off + 1, none⟩ = some (.slice A1 (rd_T52 x.objects k2).f1.length cA1) ∧ w'.cell? ⟨(adB.add (k2 * 2)).block, (adB.add (k2 * 2)).off + 1, none⟩ = some (.slice B1 (rd_T52 y.objects k2).f1.length cB1) ∧ Aside0 (Below w.heap.size w w')) (ds := []) (bm 17 0) (by as_aux_lemma => kernel_rfl) rfl (by as_aux_lemma => kernel_rfl) ⟨ux21, uy21, rx0, ry0, rx1, ry1, (Aside0.mk (by repeat (first | exact HW2.out | (with_reducible first | apply below_alloc | apply pw_below_drewN | apply below_drew1))))⟩ (fun hHeld => ?_)
              refine with_tabW refs.tab22 refs.bits22 (fun HT_ HW_ => ?_)
              refine pure_ (i := 0) (N := some 237) (v := ?_) (a' := ?_) (bm 17 1) rfl rfl (any_of HT_.out (by as_aux_lemma => kernel_rfl)) (fun _ _ _ h => h) (Or.inl ⟨by rfl, ?_⟩) ?_ ?_
              rotate_left
              · intro w'
                go_simp
                with_reducible rfl
              rotate_left
              · simp only [Act.put, List.setIfInBounds_toArray, List.set_cons_zero, List.set_cons_succ, i64_w, i32_w]
                rfl
              refine pure_ (i := 1) (N := some 238) (v := ?_) (a' := ?_) (bm 17 3) rfl rfl (any_of HT_.out (by as_aux_lemma => kernel_rfl)) (fun _ _ _ h => h) (Or.inl ⟨by rfl, ?_⟩) ?_ ?_
              rotate_left
              · intro w'
                go_simp
                with_reducible rfl
              rotate_left
              · simp only [Act.put, List.setIfInBounds_toArray, List.set_cons_zero, List.set_cons_succ, i64_w, i32_w]
                rfl
              refine pure_ (i := 2) (N := some 239) (v := ?_) (a' := ?_) (bm 17 7) rfl rfl (any_of HT_.out (by as_aux_lemma => kernel_rfl)) (fun _ _ _ h => h) (Or.inl ⟨by rfl, ?_⟩) ?_ ?_
              rotate_left
              · intro w'
                go_simp
                with_reducible rfl
              rotate_left
              · simp only [Act.put, List.setIfInBounds_toArray, List.set_cons_zero, List.set_cons_succ, i64_w, i32_w]
                rfl
              refine pure_ (i := 3) (N := some 240) (v := ?_) (a' := ?_) (bm 17 15) rfl rfl (any_of HT_.out (by as_aux_lemma => kernel_rfl)) (fun _ _ _ h => h) (Or.inl ⟨by rfl, ?_⟩) ?_ ?_
              rotate_left
              · intro w'
                go_simp
                with_reducible rfl
              rotate_left
              · simp only [Act.put, List.setIfInBounds_toArray, List.set_cons_zero, List.set_cons_succ, i64_w, i32_w]
                rfl
              refine pure_ (i := 5) (N := some 242) (v := ?_) (a' := ?_) (bm 17 47) rfl rfl (any_of HT_.out (by as_aux_lemma => kernel_rfl)) (fun _ _ _ h => h) (Or.inl ⟨by rfl, ?_⟩) ?_ ?_
              rotate_left
              · intro w'
                go_simp
                with_reducible rfl
              rotate_left
              · simp only [Act.put, List.setIfInBounds_toArray, List.set_cons_zero, List.set_cons_succ, i64_w, i32_w]
                rfl
              refine pure_ (i := 9) (N := some 246) (v := ?_) (a' := ?_) (bm 17 559) rfl rfl (any_of HT_.out (by as_aux_lemma => kernel_rfl)) (fun _ _ _ h => h) (Or.inl ⟨by rfl, ?_⟩) ?_ ?_
              rotate_left
              · intro w'
                go_simp
                with_reducible rfl
              rotate_left
              · simp only [Act.put, List.setIfInBounds_toArray, List.set_cons_zero, List.set_cons_succ, i64_w, i32_w]
                rfl
              refine pure_ (i := 11) (N := some 248) (v := ?_) (a' := ?_) (bm 17 2607) rfl rfl (any_of HT_.out (by as_aux_lemma => kernel_rfl)) (fun _ _ _ h => h) (Or.inl ⟨by rfl, ?_⟩) ?_ ?_
              rotate_left
              · intro w'
                go_simp
                with_reducible rfl
              rotate_left
              · simp only [Act.put, List.setIfInBounds_toArray, List.set_cons_zero, List.set_cons_succ, i64_w, i32_w]
                rfl
              refine take_ (i := 4) (N := some 241) (v := ?_) (a' := ?_) (bm 17 2623) rfl rfl (take_ofW HT_.out HW_.out (by as_aux_lemma => kernel_rfl)) (fun _ _ _ h => h) (Or.inl ⟨by rfl, ?_⟩) hHeld ?_ ?_
              rotate_left
              · rintro w' ⟨s0, s1, s2, s3, s4, s5, s6⟩
                go_simp
                with_reducible rfl
              rotate_left
              · simp only [Act.put, List.setIfInBounds_toArray, List.set_cons_zero, List.set_cons_succ, i64_w, i32_w]
                rfl
              refine pure_ (i := 6) (N := some 243) (v := ?_) (a' := ?_) (bm 17 2687) rfl rfl (any_of HT_.out (by as_aux_lemma => kernel_rfl)) (fun _ _ _ h => h) (Or.inl ⟨by rfl, ?_⟩) ?_ ?_
              rotate_left
              · intro w'
                go_simp
                with_reducible rfl
              rotate_left
              · simp only [Act.put, List.setIfInBounds_toArray, List.set_cons_zero, List.set_cons_succ, i64_w, i32_w]
                rfl
              refine pure_ (i := 7) (N := some 244) (v := ?_) (a' := ?_) (bm 17 2815) rfl rfl (any_of HT_.out (by as_aux_lemma => kernel_rfl)) (fun _ _ _ h => h) (Or.inl ⟨by rfl, ?_⟩) ?_ ?_
              rotate_left
              · intro w'
                go_simp
                with_reducible rfl
              rotate_left
              · simp only [Act.put, List.setIfInBounds_toArray, List.set_cons_zero, List.set_cons_succ, i64_w, i32_w]
                rfl
              refine take_ (i := 8) (N := some 245) (v := ?_) (a' := ?_) (bm 17 3071) rfl rfl (take_ofW HT_.out HW_.out (by as_aux_lemma => kernel_rfl)) (fun _ _ _ h => h) (Or.inl ⟨by rfl, ?_⟩) hHeld ?_ ?_
              rotate_left
              · rintro w' ⟨s0, s1, s2, s3, s4, s5, s6⟩
                go_simp
                with_reducible rfl
              rotate_left
              · simp only [Act.put, List.setIfInBounds_toArray, List.set_cons_zero, List.set_cons_succ, i64_w, i32_w]
                rfl
              refine take_ (i := 10) (N := some 247) (v := ?_) (a' := ?_) (bm 17 4095) rfl rfl (take_ofW HT_.out HW_.out (by as_aux_lemma => kernel_rfl)) (fun _ _ _ h => h) (Or.inl ⟨by rfl, ?_⟩) hHeld ?_ ?_
              rotate_left
              · rintro w' ⟨s0, s1, s2, s3, s4, s5, s6⟩
                go_simp
                with_reducible rfl
              rotate_left
              · simp only [Act.put, List.setIfInBounds_toArray, List.set_cons_zero, List.set_cons_succ, i64_w, i32_w]
                rfl
              refine pure_ (i := 12) (N := some 249) (v := ?_) (a' := ?_) (bm 17 8191) rfl rfl (any_of HT_.out (by as_aux_lemma => kernel_rfl)) (fun _ _ _ h => h) (Or.inl ⟨by rfl, ?_⟩) ?_ ?_
              rotate_left
              · intro w'
                go_simp
                with_reducible rfl
              rotate_left
              · simp only [Act.put, List.setIfInBounds_toArray, List.set_cons_zero, List.set_cons_succ, i64_w, i32_w]
                rfl
              refine pure_ (i := 13) (N := some 250) (v := ?_) (a' := ?_) (bm 17 16383) rfl rfl (any_of HT_.out (by as_aux_lemma => kernel_rfl)) (fun _ _ _ h => h) (Or.inl ⟨by rfl, ?_⟩) ?_ ?_
              rotate_left
              · intro w'
                go_simp
                with_reducible rfl
              rotate_left
              · simp only [Act.put, List.setIfInBounds_toArray, List.set_cons_zero, List.set_cons_succ, i64_w, i32_w]
                rfl
              refine take_ (i := 14) (N := some 251) (v := ?_) (a' := ?_) (bm 17 32767) rfl rfl (take_ofW HT_.out HW_.out (by as_aux_lemma => kernel_rfl)) (fun _ _ _ h => h) (Or.inl ⟨by rfl, ?_⟩) hHeld ?_ ?_
              rotate_left
              · rintro w' ⟨s0, s1, s2, s3, s4, s5, s6⟩
                go_simp
                with_reducible rfl
              rotate_left
              · simp only [Act.put, List.setIfInBounds_toArray, List.set_cons_zero, List.set_cons_succ, i64_w, i32_w]
                rfl
              refine pure_ (i := 15) (N := some 252) (v := ?_) (a' := ?_) (bm 17 65535) rfl rfl (any_of HT_.out (by as_aux_lemma => kernel_rfl)) (fun _ _ _ h => h) (Or.inl ⟨by rfl, ?_⟩) ?_ ?_
              rotate_left
              · intro w'
                go_simp
                with_reducible rfl
              rotate_left
              · simp only [Act.put, List.setIfInBounds_toArray, List.set_cons_zero, List.set_cons_succ, i64_w, i32_w]
                rfl
              refine pure_ (i := 16) (N := some 253) (v := ?_) (a' := ?_) (bm 17 131071) rfl rfl (any_of HT_.out (by as_aux_lemma => kernel_rfl)) (fun _ _ _ h => h) (Or.inl ⟨by rfl, ?_⟩) ?_ ?_
              rotate_left
              · intro w'
                go_simp
                with_reducible rfl
              rotate_left
              · simp only [Act.put, List.setIfInBounds_toArray, List.set_cons_zero, List.set_cons_succ, i64_w, i32_w]
                rfl
              refine done_ (done_of HT_.out (by as_aux_lemma => kernel_rfl)) ?_
              
              go_wp2
              go_roundw
              case rel => exact ⟨k2 + 1, by omega, by go_num, ⟨by rw [HL2.out, HD2.out, HC2.out]; rfl⟩, ⟨(by repeat (first | exact HW2.out | (with_reducible first | apply below_alloc | apply pw_below_drewN | apply below_drew1)))⟩, ⟨(by repeat (first | exact HV2.out | (with_reducible first | apply below_alloc | apply pw_below_drewN | apply below_drew1)))⟩⟩
              case measure => simp [intOf]; omega
            · go_wp2
              go_ret
              have e1 : x.objects.drop k2 = [] := List.drop_eq_nil_of_le (by omega)
              have e2 : y.objects.drop k2 = [] := List.drop_eq_nil_of_le (by have := Lobjects.out; omega)
              exact ⟨by rw [HTT.out, HL2.out, e1, e2]; rfl, (by repeat (first | exact HW2.out | (with_reducible first | apply below_alloc | apply pw_below_drewN | apply below_drew1)))⟩
    · have t1objects : (x.objects.length == y.objects.length) = false := beq_eq_false_iff_ne.2 lobjects
      have t2objects : (x.objects.length != y.objects.length) = true := bne_iff_ne.2 lobjects
      have t3objects : ((x.objects.length : Int) == (y.objects.length : Int)) = false := beq_eq_false_iff_ne.2 (by omega)
      have t4objects : ((x.objects.length : Int) != (y.objects.length : Int)) = true := bne_iff_ne.2 (by omega)
      have hne := Aside0.mk (Bool.eq_false_iff.2 fun h => lobjects (listB_len _ _ h) : listB objB x.objects y.objects = false)
      clear lobjects
      go_wp2_with (go_at_call 15; refine (busbarref01_Same.calls _ _ x.data _ _ y.data _ _ (by repeat (first | exact (Kd.C_below HRx14.out HB.out) | (with_reducible refine Kd.C_alloc ?_ _) | (with_reducible refine Kd.C_drewN ?_ _) | (with_reducible refine Kd.C_drew ?_))) hcx14 (by repeat (first | exact (Kd.C_below HRy14.out HB.out) | (with_reducible refine Kd.C_alloc ?_ _) | (with_reducible refine Kd.C_drewN ?_ _) | (with_reducible refine Kd.C_drew ?_))) hcy14 P3.out).mono ?_; rintro e w4 ⟨rfl, ⟨nd3, rfl⟩⟩)
      go_ret
      exact ⟨by rw [hne.out]; simp, (by repeat (first | exact HB.out | (with_reducible first | apply below_alloc | apply pw_below_drewN | apply below_drew1)))⟩
  · have t1recs : (x.recs.length == y.recs.length) = false := beq_eq_false_iff_ne.2 lrecs
    have t2recs : (x.recs.length != y.recs.length) = true := bne_iff_ne.2 lrecs
    have t3recs : ((x.recs.length : Int) == (y.recs.length : Int)) = false := beq_eq_false_iff_ne.2 (by omega)
    have t4recs : ((x.recs.length : Int) != (y.recs.length : Int)) = true := bne_iff_ne.2 (by omega)
    have hne := Aside0.mk (Bool.eq_false_iff.2 fun h => lrecs (listB_len _ _ h) : listB recB x.recs y.recs = false)
    clear lrecs
    go_wp2_with (go_at_call 15; refine (busbarref01_Same.calls _ _ x.data _ _ y.data _ _ (by repeat (first | exact (Kd.C_below HRx14.out HB.out) | (with_reducible refine Kd.C_alloc ?_ _) | (with_reducible refine Kd.C_drewN ?_ _) | (with_reducible refine Kd.C_drew ?_))) hcx14 (by repeat (first | exact (Kd.C_below HRy14.out HB.out) | (with_reducible refine Kd.C_alloc ?_ _) | (with_reducible refine Kd.C_drewN ?_ _) | (with_reducible refine Kd.C_drew ?_))) hcy14 P3.out).mono ?_; rintro e w4 ⟨rfl, ⟨nd3, rfl⟩⟩)
    go_ret
    exact ⟨by rw [hne.out]; rfl, (by repeat (first | exact HB.out | (with_reducible first | apply below_alloc | apply pw_below_drewN | apply below_drew1)))⟩
end Go.Proofs.Ytbilolgiihegiaa.Same
