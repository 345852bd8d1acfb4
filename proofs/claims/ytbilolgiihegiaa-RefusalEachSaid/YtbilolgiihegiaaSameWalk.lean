/- code.Same tells whether two messages are one (sameB), numbers of their kind: its region, which draws its order, way by way. Conditions: numbers of their kind. -/
import Derived.Test.YtbilolgiihegiaaSame
set_option linter.unusedVariables false
set_option linter.unusedSimpArgs false
namespace Go.Proofs.Ytbilolgiihegiaa.Same
open Go.RowKit Go.Proofs.Ytbilolgiihegiaa.P Go.Proofs.Ytbilolgiihegiaa.E Go.Proofs.YtbilolgiihegiaaW.PrintWords Go.Proofs.YtbilolgiihegiaaW.PrintLast Go.Proofs.YtbilolgiihegiaaW.PrintMore
/-- Which of n operations have come up: m's bits. -/
def bm (n m : Nat) : Array Bool := ⟨(List.range n).map fun i => m.testBit i⟩
attribute [local go_sem high] eqL15
def same.T1 : Bool × List (List Nat × List Nat) := (true, [([], []), ([0], [0]), ([], []), ([2, 1], [2]), ([1, 3], [1, 3]), ([4, 3], [4]), ([5], [5]), ([6, 5], [5, 6]), ([5], [5]), ([8, 5], [5, 8]), ([7, 9, 5, 5], [5, 7, 9]), ([5, 10], [5, 10]), ([11, 10], [11]), ([12], [12]), ([13, 12], [12, 13]), ([12], [12]), ([15, 12], [12, 15]), ([14, 16, 12, 12], [12, 14, 16]), ([12, 17], [12, 17]), ([18, 17], [18]), ([19], [19]), ([20, 19], [19, 20]), ([21, 19], [19, 21]), ([19], [19]), ([23, 19], [19, 23]), ([24, 19], [19, 24]), ([22, 25, 19], [19, 22, 25]), ([19, 26], [19, 26]), ([27, 19], [27]), ([28], [28]), ([29, 28], [28, 29]), ([28], [28]), ([31, 28], [28, 31]), ([30, 32, 28, 28], [28, 30, 32]), ([28, 33], [28, 33]), ([34, 33], [34]), ([35], [35]), ([36, 35], [35, 36]), ([35], [35]), ([38, 35], [35, 38]), ([37, 39, 35, 35], [35, 37, 39]), ([35, 40], [35, 40]), ([41, 40, 0, 1, 2, 3, 4, 5, 6, 7, 8, 9, 10, 11, 12, 13, 14, 15, 16, 17, 18, 19, 20, 21, 22, 23, 24, 25, 26, 27, 28, 29, 30, 31, 32, 33, 34, 35, 36, 37, 38, 39, 40, 41], [41])])
def same.B1 : List Nat := [0, 1, 0, 7, 15, 31, 63, 127, 63, 319, 1023, 2047, 4095, 8191, 16383, 8191, 40959, 131071, 262143, 524287, 1048575, 2097151, 4194303, 1048575, 9437183, 26214399, 67108863, 134217727, 268435455, 536870911, 1073741823, 536870911, 2684354559, 8589934591, 17179869183, 34359738367, 68719476735, 137438953471, 68719476735, 343597383679, 1099511627775, 2199023255551, 4398046511103]
theorem same.tab1 : rtab .any (opsOf Try.f24 1) = same.T1 := by kernel_rfl
theorem same.bits1 : waitsOk same.T1.2 same.B1 = true := by kernel_rfl
set_option maxHeartbeats 8000000 in
set_option maxRecDepth 100000 in
theorem same_0 (x y : Msg) (Ax12 : Option Addr) (cx12 : Nat) (Ax13 : Option Addr) (cx13 : Nat) (Ax14 : Option Addr) (cx14 : Nat) (Ax15 : Option Addr) (cx15 : Nat) (Ax21 : Option Addr) (cx21 : Nat) (Ay12 : Option Addr) (cy12 : Nat) (Ay13 : Option Addr) (cy13 : Nat) (Ay14 : Option Addr) (cy14 : Nat) (Ay15 : Option Addr) (cy15 : Nat) (Ay21 : Option Addr) (cy21 : Nat) (w : World) (hrx12 : Kd.C (Kd.int .u16) w Ax12 x.words.length x.words) (hcx12 : x.words.length ≤ cx12) (hrx13 : Kd.C Kd.bool w Ax13 x.bits.length x.bits) (hcx13 : x.bits.length ≤ cx13) (hrx14 : Kd.C (Kd.int .u8) w Ax14 x.data.length x.data) (hcx14 : x.data.length ≤ cx14) (hrx15 : Kd.C k50 w Ax15 x.recs.length x.recs) (hcx15 : x.recs.length ≤ cx15) (hrx21 : Kd.C k52 w Ax21 x.objects.length x.objects) (hcx21 : x.objects.length ≤ cx21) (hry12 : Kd.C (Kd.int .u16) w Ay12 y.words.length y.words) (hcy12 : y.words.length ≤ cy12) (hry13 : Kd.C Kd.bool w Ay13 y.bits.length y.bits) (hcy13 : y.bits.length ≤ cy13) (hry14 : Kd.C (Kd.int .u8) w Ay14 y.data.length y.data) (hcy14 : y.data.length ≤ cy14) (hry15 : Kd.C k50 w Ay15 y.recs.length y.recs) (hcy15 : y.recs.length ≤ cy15) (hry21 : Kd.C k52 w Ay21 y.objects.length y.objects) (hcy21 : y.objects.length ≤ cy21) (vx0 : 0 ≤ x.code ∧ x.code < 256) (vx1 : 0 ≤ x.fail ∧ x.fail < 256) (vx16 : 0 ≤ x.mei ∧ x.mei < 256) (vx17 : 0 ≤ x.kind ∧ x.kind < 256) (vx18 : 0 ≤ x.level ∧ x.level < 256) (vx19 : 0 ≤ x.more ∧ x.more < 256) (vx20 : 0 ≤ x.next ∧ x.next < 256) (vy0 : 0 ≤ y.code ∧ y.code < 256) (vy1 : 0 ≤ y.fail ∧ y.fail < 256) (vy16 : 0 ≤ y.mei ∧ y.mei < 256) (vy17 : 0 ≤ y.kind ∧ y.kind < 256) (vy18 : 0 ≤ y.level ∧ y.level < 256) (vy19 : 0 ≤ y.more ∧ y.more < 256) (vy20 : 0 ≤ y.next ∧ y.next < 256) (ox_ : ∀ q ∈ x.objects, q.f1.all u8B = true) (oy_ : ∀ q ∈ y.objects, q.f1.all u8B = true) (b0 : eqL [x.code, x.fail, x.addr, x.count, x.value, x.and_, x.or_, x.addr2, x.sub, x.status, x.events, x.messages, shB x.mei x.kind, shB x.level x.more, x.next] [y.code, y.fail, y.addr, y.count, y.value, y.and_, y.or_, y.addr2, y.sub, y.status, y.events, y.messages, shB y.mei y.kind, shB y.level y.more, y.next] = false) :
    Calls Try.prog 24 #[.agg #[.int .u8 x.code, .int .u8 x.fail, .int .u16 x.addr, .int .u16 x.count, .int .u16 x.value, .int .u16 x.and_, .int .u16 x.or_, .int .u16 x.addr2, .int .u16 x.sub, .int .u16 x.status, .int .u16 x.events, .int .u16 x.messages, .slice Ax12 x.words.length cx12, .slice Ax13 x.bits.length cx13, .slice Ax14 x.data.length cx14, .slice Ax15 x.recs.length cx15, .int .u8 x.mei, .int .u8 x.kind, .int .u8 x.level, .int .u8 x.more, .int .u8 x.next, .slice Ax21 x.objects.length cx21], .agg #[.int .u8 y.code, .int .u8 y.fail, .int .u16 y.addr, .int .u16 y.count, .int .u16 y.value, .int .u16 y.and_, .int .u16 y.or_, .int .u16 y.addr2, .int .u16 y.sub, .int .u16 y.status, .int .u16 y.events, .int .u16 y.messages, .slice Ay12 y.words.length cy12, .slice Ay13 y.bits.length cy13, .slice Ay14 y.data.length cy14, .slice Ay15 y.recs.length cy15, .int .u8 y.mei, .int .u8 y.kind, .int .u8 y.level, .int .u8 y.more, .int .u8 y.next, .slice Ay21 y.objects.length cy21]] w fun e w' => e = .returned (.bool false) ∧ Below w.heap.size w w' := by
  have HRx12 := Aside0.mk hrx12
  have HRx13 := Aside0.mk hrx13
  have HRx14 := Aside0.mk hrx14
  have HRx15 := Aside0.mk hrx15
  have HRx21 := Aside0.mk hrx21
  have HRy12 := Aside0.mk hry12
  have HRy13 := Aside0.mk hry13
  have HRy14 := Aside0.mk hry14
  have HRy15 := Aside0.mk hry15
  have HRy21 := Aside0.mk hry21
  have ux0 := Aside0.mk vx0
  have ux1 := Aside0.mk vx1
  have ux16 := Aside0.mk vx16
  have ux17 := Aside0.mk vx17
  have ux18 := Aside0.mk vx18
  have ux19 := Aside0.mk vx19
  have ux20 := Aside0.mk vx20
  have uy0 := Aside0.mk vy0
  have uy1 := Aside0.mk vy1
  have uy16 := Aside0.mk vy16
  have uy17 := Aside0.mk vy17
  have uy18 := Aside0.mk vy18
  have uy19 := Aside0.mk vy19
  have uy20 := Aside0.mk vy20
  have ox := Aside0.mk ox_
  have oy := Aside0.mk oy_
  clear hrx12 hrx13 hrx14 hrx15 hrx21 hry12 hry13 hry14 hry15 hry21 vx0 vx1 vx16 vx17 vx18 vx19 vx20 vy0 vy1 vy16 vy17 vy18 vy19 vy20 ox_ oy_
  have hu1 := Try.underlying30
  go_enter Try.func24, Try.ntmps24
  go_wp2
  generalize Value.agg #[.int .u8 x.code, .int .u8 x.fail, .int .u16 x.addr, .int .u16 x.count, .int .u16 x.value, .int .u16 x.and_, .int .u16 x.or_, .int .u16 x.addr2, .int .u16 x.sub, .int .u16 x.status, .int .u16 x.events, .int .u16 x.messages, .slice Ax12 x.words.length cx12, .slice Ax13 x.bits.length cx13, .slice Ax14 x.data.length cx14, .slice Ax15 x.recs.length cx15, .int .u8 x.mei, .int .u8 x.kind, .int .u8 x.level, .int .u8 x.more, .int .u8 x.next, .slice Ax21 x.objects.length cx21] = g0
  generalize Value.agg #[.int .u8 y.code, .int .u8 y.fail, .int .u16 y.addr, .int .u16 y.count, .int .u16 y.value, .int .u16 y.and_, .int .u16 y.or_, .int .u16 y.addr2, .int .u16 y.sub, .int .u16 y.status, .int .u16 y.events, .int .u16 y.messages, .slice Ay12 y.words.length cy12, .slice Ay13 y.bits.length cy13, .slice Ay14 y.data.length cy14, .slice Ay15 y.recs.length cy15, .int .u8 y.mei, .int .u8 y.kind, .int .u8 y.level, .int .u8 y.more, .int .u8 y.next, .slice Ay21 y.objects.length cy21] = g1
  refine start_ (n := 43) (S := fun w' => w'.heap[w.heap.size]? = some (.cells (#[.int .u8 x.code, .int .u8 x.fail, .int .u16 x.addr, .int .u16 x.count, .int .u16 x.value, .int .u16 x.and_, .int .u16 x.or_, .int .u16 x.addr2, .int .u16 x.sub, .int .u16 x.status, .int .u16 x.events, .int .u16 x.messages, .slice Ax12 x.words.length cx12, .slice Ax13 x.bits.length cx13, .slice Ax14 x.data.length cx14, .slice Ax15 x.recs.length cx15, .int .u8 x.mei, .int .u8 x.kind, .int .u8 x.level, .int .u8 x.more, .int .u8 x.next, .slice Ax21 x.objects.length cx21] : Array Value) 30 (0, 0)) ∧ w'.heap[w.heap.size + 1]? = some (.cells (#[.int .u8 y.code, .int .u8 y.fail, .int .u16 y.addr, .int .u16 y.count, .int .u16 y.value, .int .u16 y.and_, .int .u16 y.or_, .int .u16 y.addr2, .int .u16 y.sub, .int .u16 y.status, .int .u16 y.events, .int .u16 y.messages, .slice Ay12 y.words.length cy12, .slice Ay13 y.bits.length cy13, .slice Ay14 y.data.length cy14, .slice Ay15 y.recs.length cy15, .int .u8 y.mei, .int .u8 y.kind, .int .u8 y.level, .int .u8 y.more, .int .u8 y.next, .slice Ay21 y.objects.length cy21] : Array Value) 30 (0, 0)) ∧ Aside0 (Below w.heap.size w w')) (ds := []) (bm 43 0) (by as_aux_lemma => kernel_rfl) rfl (by as_aux_lemma => kernel_rfl) ⟨(heap_x _ _ _ _), (heap_y _ _ _ _), (Aside0.mk (by repeat (first | exact Below.refl _ _ | (with_reducible first | apply below_alloc | apply pw_below_drewN | apply below_drew1))))⟩ (fun hHeld => ?_)
  generalize World.drew _ = wd at hHeld ⊢
  refine with_tabW same.tab1 same.bits1 (fun HT_ HW_ => ?_)
  refine take_ (i := 0) (N := some 5) (v := ?_) (a' := ?_) (bm 43 1) rfl rfl (take_ofW HT_.out HW_.out (by as_aux_lemma => kernel_rfl)) (fun _ _ _ h => h) (Or.inl ⟨by rfl, ?_⟩) hHeld ?_ ?_
  rotate_left
  · rintro w' ⟨s0, s1, s2⟩
    refine exec_load_row 30 (.tmp 2) ?ha_x (w.heap.size) ?hb_x _ _ _ _ s0 Try.underlying30 ?hc_x ?hd_x
    case ha_x => rfl
    case hb_x => rfl
    case hc_x => rfl
    exact (by as_aux_lemma => kernel_rfl)
  rotate_left
  · simp only [Act.put, List.setIfInBounds_toArray, List.set_cons_zero, List.set_cons_succ, i64_w, i32_w]
    rfl
  refine take_ (i := 2) (N := some 7) (v := ?_) (a' := ?_) (bm 43 5) rfl rfl (take_ofW HT_.out HW_.out (by as_aux_lemma => kernel_rfl)) (fun _ _ _ h => h) (Or.inl ⟨by rfl, ?_⟩) hHeld ?_ ?_
  rotate_left
  · rintro w' ⟨s0, s1, s2⟩
    refine exec_load_row 30 (.tmp 3) ?ha_y (w.heap.size + 1) ?hb_y _ _ _ _ s1 Try.underlying30 ?hc_y ?hd_y
    case ha_y => rfl
    case hb_y => rfl
    case hc_y => rfl
    exact (by as_aux_lemma => kernel_rfl)
  rotate_left
  · simp only [Act.put, List.setIfInBounds_toArray, List.set_cons_zero, List.set_cons_succ, i64_w, i32_w]
    rfl
  refine one_ (i := 1) (N := some 6) (bm 43 7) rfl rfl (one_of HT_.out (by as_aux_lemma => kernel_rfl)) (by as_aux_lemma => decide) (fun K hK => ?_)
  refine goes_ Try.func26 (by as_aux_lemma => kernel_rfl) rfl #[.agg #[.int .u8 x.code, .int .u8 x.fail, .int .u16 x.addr, .int .u16 x.count, .int .u16 x.value, .int .u16 x.and_, .int .u16 x.or_, .int .u16 x.addr2, .int .u16 x.sub, .int .u16 x.status, .int .u16 x.events, .int .u16 x.messages, .slice Ax12 x.words.length cx12, .slice Ax13 x.bits.length cx13, .slice Ax14 x.data.length cx14, .slice Ax15 x.recs.length cx15, .int .u8 x.mei, .int .u8 x.kind, .int .u8 x.level, .int .u8 x.more, .int .u8 x.next, .slice Ax21 x.objects.length cx21]] (by rfl) rfl rfl (by simp only [List.map_toArray, List.map_cons, List.map_nil]; rfl) ?_
  with_reducible refine (plain_any x Ax12 cx12 Ax13 cx13 Ax14 cx14 Ax15 cx15 Ax21 cx21 _ ux0.out.1 ux0.out.2 ux1.out.1 ux1.out.2 ux16.out.1 ux16.out.2 ux17.out.1 ux17.out.2 ux18.out.1 ux18.out.2 ux19.out.1 ux19.out.2 ux20.out.1 ux20.out.2).mono ?_
  rintro e wx1 ⟨rfl, hb⟩
  refine ⟨_, rfl, ?_⟩
  refine hK.out _ _ ⟨((hb.block _ (heap_lt' hHeld.1)).trans hHeld.1), ((hb.block _ (heap_lt' hHeld.2.1)).trans hHeld.2.1), (Aside0.mk (below_step hHeld.2.2.out hb))⟩ (fun hHeld => ?_)
  clear hK K
  refine norm_ (a' := ?_) ?_ ?_
  rotate_left
  · show Act.put _ (some 6) _ = _
    simp only [Act.put, List.setIfInBounds_toArray, List.set_cons_zero, List.set_cons_succ, i64_w, i32_w]
    rfl
  generalize Value.agg #[.int .u8 x.code, .int .u8 x.fail, .int .u16 x.addr, .int .u16 x.count, .int .u16 x.value, .int .u16 x.and_, .int .u16 x.or_, .int .u16 x.addr2, .int .u16 x.sub, .int .u16 x.status, .int .u16 x.events, .int .u16 x.messages, .slice Ax12 x.words.length cx12, .slice Ax13 x.bits.length cx13, .slice Ax14 x.data.length cx14, .slice Ax15 x.recs.length cx15, .int .u8 x.mei, .int .u8 x.kind, .int .u8 x.level, .int .u8 x.more, .int .u8 x.next, .slice Ax21 x.objects.length cx21] = g5
  refine one_ (i := 3) (N := some 8) (bm 43 15) rfl rfl (one_of HT_.out (by as_aux_lemma => kernel_rfl)) (by as_aux_lemma => decide) (fun K hK => ?_)
  refine goes_ Try.func26 (by as_aux_lemma => kernel_rfl) rfl #[.agg #[.int .u8 y.code, .int .u8 y.fail, .int .u16 y.addr, .int .u16 y.count, .int .u16 y.value, .int .u16 y.and_, .int .u16 y.or_, .int .u16 y.addr2, .int .u16 y.sub, .int .u16 y.status, .int .u16 y.events, .int .u16 y.messages, .slice Ay12 y.words.length cy12, .slice Ay13 y.bits.length cy13, .slice Ay14 y.data.length cy14, .slice Ay15 y.recs.length cy15, .int .u8 y.mei, .int .u8 y.kind, .int .u8 y.level, .int .u8 y.more, .int .u8 y.next, .slice Ay21 y.objects.length cy21]] (by rfl) rfl rfl (by simp only [List.map_toArray, List.map_cons, List.map_nil]; rfl) ?_
  with_reducible refine (plain_any y Ay12 cy12 Ay13 cy13 Ay14 cy14 Ay15 cy15 Ay21 cy21 _ uy0.out.1 uy0.out.2 uy1.out.1 uy1.out.2 uy16.out.1 uy16.out.2 uy17.out.1 uy17.out.2 uy18.out.1 uy18.out.2 uy19.out.1 uy19.out.2 uy20.out.1 uy20.out.2).mono ?_
  rintro e wy1 ⟨rfl, hb⟩
  refine ⟨_, rfl, ?_⟩
  refine hK.out _ _ ⟨((hb.block _ (heap_lt' hHeld.1)).trans hHeld.1), ((hb.block _ (heap_lt' hHeld.2.1)).trans hHeld.2.1), (Aside0.mk (below_step hHeld.2.2.out hb))⟩ (fun hHeld => ?_)
  clear hK K
  refine norm_ (a' := ?_) ?_ ?_
  rotate_left
  · show Act.put _ (some 8) _ = _
    simp only [Act.put, List.setIfInBounds_toArray, List.set_cons_zero, List.set_cons_succ, i64_w, i32_w]
    rfl
  generalize Value.agg #[.int .u8 y.code, .int .u8 y.fail, .int .u16 y.addr, .int .u16 y.count, .int .u16 y.value, .int .u16 y.and_, .int .u16 y.or_, .int .u16 y.addr2, .int .u16 y.sub, .int .u16 y.status, .int .u16 y.events, .int .u16 y.messages, .slice Ay12 y.words.length cy12, .slice Ay13 y.bits.length cy13, .slice Ay14 y.data.length cy14, .slice Ay15 y.recs.length cy15, .int .u8 y.mei, .int .u8 y.kind, .int .u8 y.level, .int .u8 y.more, .int .u8 y.next, .slice Ay21 y.objects.length cy21] = g7
  refine pure_ (i := 4) (N := some 9) (v := ?_) (a' := ?_) (bm 43 31) rfl rfl (any_of HT_.out (by as_aux_lemma => kernel_rfl)) (fun _ _ _ h => h) (Or.inl ⟨by rfl, ?_⟩) ?_ ?_
  rotate_left
  · intro w'
    go_simp
    with_reducible rfl
  rotate_left
  · simp only [Act.put, List.setIfInBounds_toArray, List.set_cons_zero, List.set_cons_succ, i64_w, i32_w]
    rfl
  generalize Value.agg #[.int .u16 x.code, .int .u16 x.fail, .int .u16 x.addr, .int .u16 x.count, .int .u16 x.value, .int .u16 x.and_, .int .u16 x.or_, .int .u16 x.addr2, .int .u16 x.sub, .int .u16 x.status, .int .u16 x.events, .int .u16 x.messages, .int .u16 (shB x.mei x.kind), .int .u16 (shB x.level x.more), .int .u16 x.next] = g6
  generalize Value.agg #[.int .u16 y.code, .int .u16 y.fail, .int .u16 y.addr, .int .u16 y.count, .int .u16 y.value, .int .u16 y.and_, .int .u16 y.or_, .int .u16 y.addr2, .int .u16 y.sub, .int .u16 y.status, .int .u16 y.events, .int .u16 y.messages, .int .u16 (shB y.mei y.kind), .int .u16 (shB y.level y.more), .int .u16 y.next] = g8
  refine pure_ (i := 5) (N := some 10) (v := ?_) (a' := ?_) (bm 43 63) rfl rfl (any_of HT_.out (by as_aux_lemma => kernel_rfl)) (fun _ _ _ h => h) (Or.inl ⟨by rfl, ?_⟩) ?_ ?_
  rotate_left
  · intro w'
    go_simp
    with_reducible rfl
  rotate_left
  · simp only [Act.put, List.setIfInBounds_toArray, List.set_cons_zero, List.set_cons_succ, i64_w, i32_w]
    rfl
  refine pure_ (i := 6) (N := some 11) (v := undef) (a' := ?_) (bm 43 127) rfl rfl (any_of HT_.out (by as_aux_lemma => kernel_rfl)) (fun _ _ _ h => h) (Or.inr ⟨by rfl, rfl⟩) ?_ ?_
  rotate_left
  · simp only [Act.put, List.setIfInBounds_toArray, List.set_cons_zero, List.set_cons_succ, i64_w, i32_w]
    rfl
  refine pure_ (i := 7) (N := some 12) (v := undef) (a' := ?_) (bm 43 255) rfl rfl (any_of HT_.out (by as_aux_lemma => kernel_rfl)) (fun _ _ _ h => h) (Or.inr ⟨by rfl, rfl⟩) ?_ ?_
  rotate_left
  · simp only [Act.put, List.setIfInBounds_toArray, List.set_cons_zero, List.set_cons_succ, i64_w, i32_w]
    rfl
  refine pure_ (i := 8) (N := some 13) (v := undef) (a' := ?_) (bm 43 511) rfl rfl (any_of HT_.out (by as_aux_lemma => kernel_rfl)) (fun _ _ _ h => h) (Or.inr ⟨by rfl, rfl⟩) ?_ ?_
  rotate_left
  · simp only [Act.put, List.setIfInBounds_toArray, List.set_cons_zero, List.set_cons_succ, i64_w, i32_w]
    rfl
  refine pure_ (i := 9) (N := some 14) (v := undef) (a' := ?_) (bm 43 1023) rfl rfl (any_of HT_.out (by as_aux_lemma => kernel_rfl)) (fun _ _ _ h => h) (Or.inr ⟨by rfl, rfl⟩) ?_ ?_
  rotate_left
  · simp only [Act.put, List.setIfInBounds_toArray, List.set_cons_zero, List.set_cons_succ, i64_w, i32_w]
    rfl
  refine pure_ (i := 10) (N := some 15) (v := undef) (a' := ?_) (bm 43 2047) rfl rfl (any_of HT_.out (by as_aux_lemma => kernel_rfl)) (fun _ _ _ h => h) (Or.inr ⟨by rfl, rfl⟩) ?_ ?_
  rotate_left
  · simp only [Act.put, List.setIfInBounds_toArray, List.set_cons_zero, List.set_cons_succ, i64_w, i32_w]
    rfl
  refine pure_ (i := 11) (N := some 16) (v := ?_) (a' := ?_) (bm 43 4095) rfl rfl (any_of HT_.out (by as_aux_lemma => kernel_rfl)) (fun _ _ _ h => h) (Or.inl ⟨by rfl, ?_⟩) ?_ ?_
  rotate_left
  · intro w'
    go_simp
    with_reducible rfl
  rotate_left
  · simp only [Act.put, List.setIfInBounds_toArray, List.set_cons_zero, List.set_cons_succ, i64_w, i32_w]
    rfl
  refine pure_ (i := 12) (N := some 17) (v := ?_) (a' := ?_) (bm 43 8191) rfl rfl (any_of HT_.out (by as_aux_lemma => kernel_rfl)) (fun _ _ _ h => h) (Or.inl ⟨by rfl, ?_⟩) ?_ ?_
  rotate_left
  · intro w'
    go_simp
    with_reducible rfl
  rotate_left
  · simp only [Act.put, List.setIfInBounds_toArray, List.set_cons_zero, List.set_cons_succ, i64_w, i32_w]
    rfl
  refine pure_ (i := 13) (N := some 18) (v := undef) (a' := ?_) (bm 43 16383) rfl rfl (any_of HT_.out (by as_aux_lemma => kernel_rfl)) (fun _ _ _ h => h) (Or.inr ⟨by rfl, rfl⟩) ?_ ?_
  rotate_left
  · simp only [Act.put, List.setIfInBounds_toArray, List.set_cons_zero, List.set_cons_succ, i64_w, i32_w]
    rfl
  refine pure_ (i := 14) (N := some 19) (v := undef) (a' := ?_) (bm 43 32767) rfl rfl (any_of HT_.out (by as_aux_lemma => kernel_rfl)) (fun _ _ _ h => h) (Or.inr ⟨by rfl, rfl⟩) ?_ ?_
  rotate_left
  · simp only [Act.put, List.setIfInBounds_toArray, List.set_cons_zero, List.set_cons_succ, i64_w, i32_w]
    rfl
  refine pure_ (i := 15) (N := some 20) (v := undef) (a' := ?_) (bm 43 65535) rfl rfl (any_of HT_.out (by as_aux_lemma => kernel_rfl)) (fun _ _ _ h => h) (Or.inr ⟨by rfl, rfl⟩) ?_ ?_
  rotate_left
  · simp only [Act.put, List.setIfInBounds_toArray, List.set_cons_zero, List.set_cons_succ, i64_w, i32_w]
    rfl
  refine pure_ (i := 16) (N := some 21) (v := undef) (a' := ?_) (bm 43 131071) rfl rfl (any_of HT_.out (by as_aux_lemma => kernel_rfl)) (fun _ _ _ h => h) (Or.inr ⟨by rfl, rfl⟩) ?_ ?_
  rotate_left
  · simp only [Act.put, List.setIfInBounds_toArray, List.set_cons_zero, List.set_cons_succ, i64_w, i32_w]
    rfl
  refine pure_ (i := 17) (N := some 22) (v := undef) (a' := ?_) (bm 43 262143) rfl rfl (any_of HT_.out (by as_aux_lemma => kernel_rfl)) (fun _ _ _ h => h) (Or.inr ⟨by rfl, rfl⟩) ?_ ?_
  rotate_left
  · simp only [Act.put, List.setIfInBounds_toArray, List.set_cons_zero, List.set_cons_succ, i64_w, i32_w]
    rfl
  refine pure_ (i := 18) (N := some 23) (v := ?_) (a' := ?_) (bm 43 524287) rfl rfl (any_of HT_.out (by as_aux_lemma => kernel_rfl)) (fun _ _ _ h => h) (Or.inl ⟨by rfl, ?_⟩) ?_ ?_
  rotate_left
  · intro w'
    go_simp
    with_reducible rfl
  rotate_left
  · simp only [Act.put, List.setIfInBounds_toArray, List.set_cons_zero, List.set_cons_succ, i64_w, i32_w]
    rfl
  refine pure_ (i := 19) (N := some 24) (v := ?_) (a' := ?_) (bm 43 1048575) rfl rfl (any_of HT_.out (by as_aux_lemma => kernel_rfl)) (fun _ _ _ h => h) (Or.inl ⟨by rfl, ?_⟩) ?_ ?_
  rotate_left
  · intro w'
    go_simp
    with_reducible rfl
  rotate_left
  · simp only [Act.put, List.setIfInBounds_toArray, List.set_cons_zero, List.set_cons_succ, i64_w, i32_w]
    rfl
  refine pure_ (i := 20) (N := some 25) (v := undef) (a' := ?_) (bm 43 2097151) rfl rfl (any_of HT_.out (by as_aux_lemma => kernel_rfl)) (fun _ _ _ h => h) (Or.inr ⟨by rfl, rfl⟩) ?_ ?_
  rotate_left
  · simp only [Act.put, List.setIfInBounds_toArray, List.set_cons_zero, List.set_cons_succ, i64_w, i32_w]
    rfl
  refine pure_ (i := 21) (N := some 26) (v := undef) (a' := ?_) (bm 43 4194303) rfl rfl (any_of HT_.out (by as_aux_lemma => kernel_rfl)) (fun _ _ _ h => h) (Or.inr ⟨by rfl, rfl⟩) ?_ ?_
  rotate_left
  · simp only [Act.put, List.setIfInBounds_toArray, List.set_cons_zero, List.set_cons_succ, i64_w, i32_w]
    rfl
  refine pure_ (i := 22) (N := some 27) (v := undef) (a' := ?_) (bm 43 8388607) rfl rfl (any_of HT_.out (by as_aux_lemma => kernel_rfl)) (fun _ _ _ h => h) (Or.inr ⟨by rfl, rfl⟩) ?_ ?_
  rotate_left
  · simp only [Act.put, List.setIfInBounds_toArray, List.set_cons_zero, List.set_cons_succ, i64_w, i32_w]
    rfl
  refine pure_ (i := 23) (N := some 28) (v := undef) (a' := ?_) (bm 43 16777215) rfl rfl (any_of HT_.out (by as_aux_lemma => kernel_rfl)) (fun _ _ _ h => h) (Or.inr ⟨by rfl, rfl⟩) ?_ ?_
  rotate_left
  · simp only [Act.put, List.setIfInBounds_toArray, List.set_cons_zero, List.set_cons_succ, i64_w, i32_w]
    rfl
  refine pure_ (i := 24) (N := some 29) (v := undef) (a' := ?_) (bm 43 33554431) rfl rfl (any_of HT_.out (by as_aux_lemma => kernel_rfl)) (fun _ _ _ h => h) (Or.inr ⟨by rfl, rfl⟩) ?_ ?_
  rotate_left
  · simp only [Act.put, List.setIfInBounds_toArray, List.set_cons_zero, List.set_cons_succ, i64_w, i32_w]
    rfl
  refine pure_ (i := 25) (N := some 30) (v := undef) (a' := ?_) (bm 43 67108863) rfl rfl (any_of HT_.out (by as_aux_lemma => kernel_rfl)) (fun _ _ _ h => h) (Or.inr ⟨by rfl, rfl⟩) ?_ ?_
  rotate_left
  · simp only [Act.put, List.setIfInBounds_toArray, List.set_cons_zero, List.set_cons_succ, i64_w, i32_w]
    rfl
  refine pure_ (i := 26) (N := some 31) (v := undef) (a' := ?_) (bm 43 134217727) rfl rfl (any_of HT_.out (by as_aux_lemma => kernel_rfl)) (fun _ _ _ h => h) (Or.inr ⟨by rfl, rfl⟩) ?_ ?_
  rotate_left
  · simp only [Act.put, List.setIfInBounds_toArray, List.set_cons_zero, List.set_cons_succ, i64_w, i32_w]
    rfl
  refine pure_ (i := 27) (N := some 32) (v := ?_) (a' := ?_) (bm 43 268435455) rfl rfl (any_of HT_.out (by as_aux_lemma => kernel_rfl)) (fun _ _ _ h => h) (Or.inl ⟨by rfl, ?_⟩) ?_ ?_
  rotate_left
  · intro w'
    go_simp
    with_reducible rfl
  rotate_left
  · simp only [Act.put, List.setIfInBounds_toArray, List.set_cons_zero, List.set_cons_succ, i64_w, i32_w]
    rfl
  refine pure_ (i := 28) (N := some 33) (v := ?_) (a' := ?_) (bm 43 536870911) rfl rfl (any_of HT_.out (by as_aux_lemma => kernel_rfl)) (fun _ _ _ h => h) (Or.inl ⟨by rfl, ?_⟩) ?_ ?_
  rotate_left
  · intro w'
    go_simp
    with_reducible rfl
  rotate_left
  · simp only [Act.put, List.setIfInBounds_toArray, List.set_cons_zero, List.set_cons_succ, i64_w, i32_w]
    rfl
  refine pure_ (i := 29) (N := some 34) (v := undef) (a' := ?_) (bm 43 1073741823) rfl rfl (any_of HT_.out (by as_aux_lemma => kernel_rfl)) (fun _ _ _ h => h) (Or.inr ⟨by rfl, rfl⟩) ?_ ?_
  rotate_left
  · simp only [Act.put, List.setIfInBounds_toArray, List.set_cons_zero, List.set_cons_succ, i64_w, i32_w]
    rfl
  refine pure_ (i := 30) (N := some 35) (v := undef) (a' := ?_) (bm 43 2147483647) rfl rfl (any_of HT_.out (by as_aux_lemma => kernel_rfl)) (fun _ _ _ h => h) (Or.inr ⟨by rfl, rfl⟩) ?_ ?_
  rotate_left
  · simp only [Act.put, List.setIfInBounds_toArray, List.set_cons_zero, List.set_cons_succ, i64_w, i32_w]
    rfl
  refine pure_ (i := 31) (N := some 36) (v := undef) (a' := ?_) (bm 43 4294967295) rfl rfl (any_of HT_.out (by as_aux_lemma => kernel_rfl)) (fun _ _ _ h => h) (Or.inr ⟨by rfl, rfl⟩) ?_ ?_
  rotate_left
  · simp only [Act.put, List.setIfInBounds_toArray, List.set_cons_zero, List.set_cons_succ, i64_w, i32_w]
    rfl
  refine pure_ (i := 32) (N := some 37) (v := undef) (a' := ?_) (bm 43 8589934591) rfl rfl (any_of HT_.out (by as_aux_lemma => kernel_rfl)) (fun _ _ _ h => h) (Or.inr ⟨by rfl, rfl⟩) ?_ ?_
  rotate_left
  · simp only [Act.put, List.setIfInBounds_toArray, List.set_cons_zero, List.set_cons_succ, i64_w, i32_w]
    rfl
  refine pure_ (i := 33) (N := some 38) (v := undef) (a' := ?_) (bm 43 17179869183) rfl rfl (any_of HT_.out (by as_aux_lemma => kernel_rfl)) (fun _ _ _ h => h) (Or.inr ⟨by rfl, rfl⟩) ?_ ?_
  rotate_left
  · simp only [Act.put, List.setIfInBounds_toArray, List.set_cons_zero, List.set_cons_succ, i64_w, i32_w]
    rfl
  refine pure_ (i := 34) (N := some 39) (v := ?_) (a' := ?_) (bm 43 34359738367) rfl rfl (any_of HT_.out (by as_aux_lemma => kernel_rfl)) (fun _ _ _ h => h) (Or.inl ⟨by rfl, ?_⟩) ?_ ?_
  rotate_left
  · intro w'
    go_simp
    with_reducible rfl
  rotate_left
  · simp only [Act.put, List.setIfInBounds_toArray, List.set_cons_zero, List.set_cons_succ, i64_w, i32_w]
    rfl
  refine pure_ (i := 35) (N := some 40) (v := ?_) (a' := ?_) (bm 43 68719476735) rfl rfl (any_of HT_.out (by as_aux_lemma => kernel_rfl)) (fun _ _ _ h => h) (Or.inl ⟨by rfl, ?_⟩) ?_ ?_
  rotate_left
  · intro w'
    go_simp
    with_reducible rfl
  rotate_left
  · simp only [Act.put, List.setIfInBounds_toArray, List.set_cons_zero, List.set_cons_succ, i64_w, i32_w]
    rfl
  refine pure_ (i := 36) (N := some 41) (v := undef) (a' := ?_) (bm 43 137438953471) rfl rfl (any_of HT_.out (by as_aux_lemma => kernel_rfl)) (fun _ _ _ h => h) (Or.inr ⟨by rfl, rfl⟩) ?_ ?_
  rotate_left
  · simp only [Act.put, List.setIfInBounds_toArray, List.set_cons_zero, List.set_cons_succ, i64_w, i32_w]
    rfl
  refine pure_ (i := 37) (N := some 42) (v := undef) (a' := ?_) (bm 43 274877906943) rfl rfl (any_of HT_.out (by as_aux_lemma => kernel_rfl)) (fun _ _ _ h => h) (Or.inr ⟨by rfl, rfl⟩) ?_ ?_
  rotate_left
  · simp only [Act.put, List.setIfInBounds_toArray, List.set_cons_zero, List.set_cons_succ, i64_w, i32_w]
    rfl
  refine pure_ (i := 38) (N := some 43) (v := undef) (a' := ?_) (bm 43 549755813887) rfl rfl (any_of HT_.out (by as_aux_lemma => kernel_rfl)) (fun _ _ _ h => h) (Or.inr ⟨by rfl, rfl⟩) ?_ ?_
  rotate_left
  · simp only [Act.put, List.setIfInBounds_toArray, List.set_cons_zero, List.set_cons_succ, i64_w, i32_w]
    rfl
  refine pure_ (i := 39) (N := some 44) (v := undef) (a' := ?_) (bm 43 1099511627775) rfl rfl (any_of HT_.out (by as_aux_lemma => kernel_rfl)) (fun _ _ _ h => h) (Or.inr ⟨by rfl, rfl⟩) ?_ ?_
  rotate_left
  · simp only [Act.put, List.setIfInBounds_toArray, List.set_cons_zero, List.set_cons_succ, i64_w, i32_w]
    rfl
  refine pure_ (i := 40) (N := some 45) (v := undef) (a' := ?_) (bm 43 2199023255551) rfl rfl (any_of HT_.out (by as_aux_lemma => kernel_rfl)) (fun _ _ _ h => h) (Or.inr ⟨by rfl, rfl⟩) ?_ ?_
  rotate_left
  · simp only [Act.put, List.setIfInBounds_toArray, List.set_cons_zero, List.set_cons_succ, i64_w, i32_w]
    rfl
  refine pure_ (i := 41) (N := some 46) (v := ?_) (a' := ?_) (bm 43 4398046511103) rfl rfl (any_of HT_.out (by as_aux_lemma => kernel_rfl)) (fun _ _ _ h => h) (Or.inl ⟨by rfl, ?_⟩) ?_ ?_
  rotate_left
  · intro w'
    go_simp
    with_reducible rfl
  rotate_left
  · simp only [Act.put, List.setIfInBounds_toArray, List.set_cons_zero, List.set_cons_succ, i64_w, i32_w]
    rfl
  refine pure_ (i := 42) (N := some 4) (v := ?_) (a' := ?_) (bm 43 8796093022207) rfl rfl (any_of HT_.out (by as_aux_lemma => kernel_rfl)) (fun _ _ _ h => h) (Or.inl ⟨by rfl, ?_⟩) ?_ ?_
  rotate_left
  · intro w'
    go_simp
    with_reducible rfl
  rotate_left
  · simp only [Act.put, List.setIfInBounds_toArray, List.set_cons_zero, List.set_cons_succ, i64_w, i32_w]
    rfl
  refine done_ (done_of HT_.out (by as_aux_lemma => kernel_rfl)) ?_

  go_wp2
  go_ret
  exact ⟨rfl, hHeld.2.2.out⟩

set_option maxHeartbeats 8000000 in
set_option maxRecDepth 100000 in
theorem same_1 (x y : Msg) (Ax12 : Option Addr) (cx12 : Nat) (Ax13 : Option Addr) (cx13 : Nat) (Ax14 : Option Addr) (cx14 : Nat) (Ax15 : Option Addr) (cx15 : Nat) (Ax21 : Option Addr) (cx21 : Nat) (Ay12 : Option Addr) (cy12 : Nat) (Ay13 : Option Addr) (cy13 : Nat) (Ay14 : Option Addr) (cy14 : Nat) (Ay15 : Option Addr) (cy15 : Nat) (Ay21 : Option Addr) (cy21 : Nat) (w : World) (hrx12 : Kd.C (Kd.int .u16) w Ax12 x.words.length x.words) (hcx12 : x.words.length ≤ cx12) (hrx13 : Kd.C Kd.bool w Ax13 x.bits.length x.bits) (hcx13 : x.bits.length ≤ cx13) (hrx14 : Kd.C (Kd.int .u8) w Ax14 x.data.length x.data) (hcx14 : x.data.length ≤ cx14) (hrx15 : Kd.C k50 w Ax15 x.recs.length x.recs) (hcx15 : x.recs.length ≤ cx15) (hrx21 : Kd.C k52 w Ax21 x.objects.length x.objects) (hcx21 : x.objects.length ≤ cx21) (hry12 : Kd.C (Kd.int .u16) w Ay12 y.words.length y.words) (hcy12 : y.words.length ≤ cy12) (hry13 : Kd.C Kd.bool w Ay13 y.bits.length y.bits) (hcy13 : y.bits.length ≤ cy13) (hry14 : Kd.C (Kd.int .u8) w Ay14 y.data.length y.data) (hcy14 : y.data.length ≤ cy14) (hry15 : Kd.C k50 w Ay15 y.recs.length y.recs) (hcy15 : y.recs.length ≤ cy15) (hry21 : Kd.C k52 w Ay21 y.objects.length y.objects) (hcy21 : y.objects.length ≤ cy21) (vx0 : 0 ≤ x.code ∧ x.code < 256) (vx1 : 0 ≤ x.fail ∧ x.fail < 256) (vx16 : 0 ≤ x.mei ∧ x.mei < 256) (vx17 : 0 ≤ x.kind ∧ x.kind < 256) (vx18 : 0 ≤ x.level ∧ x.level < 256) (vx19 : 0 ≤ x.more ∧ x.more < 256) (vx20 : 0 ≤ x.next ∧ x.next < 256) (vy0 : 0 ≤ y.code ∧ y.code < 256) (vy1 : 0 ≤ y.fail ∧ y.fail < 256) (vy16 : 0 ≤ y.mei ∧ y.mei < 256) (vy17 : 0 ≤ y.kind ∧ y.kind < 256) (vy18 : 0 ≤ y.level ∧ y.level < 256) (vy19 : 0 ≤ y.more ∧ y.more < 256) (vy20 : 0 ≤ y.next ∧ y.next < 256) (ox_ : ∀ q ∈ x.objects, q.f1.all u8B = true) (oy_ : ∀ q ∈ y.objects, q.f1.all u8B = true) (b0 : eqL [x.code, x.fail, x.addr, x.count, x.value, x.and_, x.or_, x.addr2, x.sub, x.status, x.events, x.messages, shB x.mei x.kind, shB x.level x.more, x.next] [y.code, y.fail, y.addr, y.count, y.value, y.and_, y.or_, y.addr2, y.sub, y.status, y.events, y.messages, shB y.mei y.kind, shB y.level y.more, y.next] = true) (k1 : Nat) (p1 : slices_Equal_uint16_uint16.f k1 x.words y.words = some false) :
    Calls Try.prog 24 #[.agg #[.int .u8 x.code, .int .u8 x.fail, .int .u16 x.addr, .int .u16 x.count, .int .u16 x.value, .int .u16 x.and_, .int .u16 x.or_, .int .u16 x.addr2, .int .u16 x.sub, .int .u16 x.status, .int .u16 x.events, .int .u16 x.messages, .slice Ax12 x.words.length cx12, .slice Ax13 x.bits.length cx13, .slice Ax14 x.data.length cx14, .slice Ax15 x.recs.length cx15, .int .u8 x.mei, .int .u8 x.kind, .int .u8 x.level, .int .u8 x.more, .int .u8 x.next, .slice Ax21 x.objects.length cx21], .agg #[.int .u8 y.code, .int .u8 y.fail, .int .u16 y.addr, .int .u16 y.count, .int .u16 y.value, .int .u16 y.and_, .int .u16 y.or_, .int .u16 y.addr2, .int .u16 y.sub, .int .u16 y.status, .int .u16 y.events, .int .u16 y.messages, .slice Ay12 y.words.length cy12, .slice Ay13 y.bits.length cy13, .slice Ay14 y.data.length cy14, .slice Ay15 y.recs.length cy15, .int .u8 y.mei, .int .u8 y.kind, .int .u8 y.level, .int .u8 y.more, .int .u8 y.next, .slice Ay21 y.objects.length cy21]] w fun e w' => e = .returned (.bool false) ∧ Below w.heap.size w w' := by
  have HRx12 := Aside0.mk hrx12
  have HRx13 := Aside0.mk hrx13
  have HRx14 := Aside0.mk hrx14
  have HRx15 := Aside0.mk hrx15
  have HRx21 := Aside0.mk hrx21
  have HRy12 := Aside0.mk hry12
  have HRy13 := Aside0.mk hry13
  have HRy14 := Aside0.mk hry14
  have HRy15 := Aside0.mk hry15
  have HRy21 := Aside0.mk hry21
  have ux0 := Aside0.mk vx0
  have ux1 := Aside0.mk vx1
  have ux16 := Aside0.mk vx16
  have ux17 := Aside0.mk vx17
  have ux18 := Aside0.mk vx18
  have ux19 := Aside0.mk vx19
  have ux20 := Aside0.mk vx20
  have uy0 := Aside0.mk vy0
  have uy1 := Aside0.mk vy1
  have uy16 := Aside0.mk vy16
  have uy17 := Aside0.mk vy17
  have uy18 := Aside0.mk vy18
  have uy19 := Aside0.mk vy19
  have uy20 := Aside0.mk vy20
  have ox := Aside0.mk ox_
  have oy := Aside0.mk oy_
  have P1 := Aside0.mk p1
  clear hrx12 hrx13 hrx14 hrx15 hrx21 hry12 hry13 hry14 hry15 hry21 vx0 vx1 vx16 vx17 vx18 vx19 vx20 vy0 vy1 vy16 vy17 vy18 vy19 vy20 ox_ oy_ p1
  have hu1 := Try.underlying30
  go_enter Try.func24, Try.ntmps24
  go_wp2
  generalize Value.agg #[.int .u8 x.code, .int .u8 x.fail, .int .u16 x.addr, .int .u16 x.count, .int .u16 x.value, .int .u16 x.and_, .int .u16 x.or_, .int .u16 x.addr2, .int .u16 x.sub, .int .u16 x.status, .int .u16 x.events, .int .u16 x.messages, .slice Ax12 x.words.length cx12, .slice Ax13 x.bits.length cx13, .slice Ax14 x.data.length cx14, .slice Ax15 x.recs.length cx15, .int .u8 x.mei, .int .u8 x.kind, .int .u8 x.level, .int .u8 x.more, .int .u8 x.next, .slice Ax21 x.objects.length cx21] = g0
  generalize Value.agg #[.int .u8 y.code, .int .u8 y.fail, .int .u16 y.addr, .int .u16 y.count, .int .u16 y.value, .int .u16 y.and_, .int .u16 y.or_, .int .u16 y.addr2, .int .u16 y.sub, .int .u16 y.status, .int .u16 y.events, .int .u16 y.messages, .slice Ay12 y.words.length cy12, .slice Ay13 y.bits.length cy13, .slice Ay14 y.data.length cy14, .slice Ay15 y.recs.length cy15, .int .u8 y.mei, .int .u8 y.kind, .int .u8 y.level, .int .u8 y.more, .int .u8 y.next, .slice Ay21 y.objects.length cy21] = g1
  refine start_ (n := 43) (S := fun w' => w'.heap[w.heap.size]? = some (.cells (#[.int .u8 x.code, .int .u8 x.fail, .int .u16 x.addr, .int .u16 x.count, .int .u16 x.value, .int .u16 x.and_, .int .u16 x.or_, .int .u16 x.addr2, .int .u16 x.sub, .int .u16 x.status, .int .u16 x.events, .int .u16 x.messages, .slice Ax12 x.words.length cx12, .slice Ax13 x.bits.length cx13, .slice Ax14 x.data.length cx14, .slice Ax15 x.recs.length cx15, .int .u8 x.mei, .int .u8 x.kind, .int .u8 x.level, .int .u8 x.more, .int .u8 x.next, .slice Ax21 x.objects.length cx21] : Array Value) 30 (0, 0)) ∧ w'.heap[w.heap.size + 1]? = some (.cells (#[.int .u8 y.code, .int .u8 y.fail, .int .u16 y.addr, .int .u16 y.count, .int .u16 y.value, .int .u16 y.and_, .int .u16 y.or_, .int .u16 y.addr2, .int .u16 y.sub, .int .u16 y.status, .int .u16 y.events, .int .u16 y.messages, .slice Ay12 y.words.length cy12, .slice Ay13 y.bits.length cy13, .slice Ay14 y.data.length cy14, .slice Ay15 y.recs.length cy15, .int .u8 y.mei, .int .u8 y.kind, .int .u8 y.level, .int .u8 y.more, .int .u8 y.next, .slice Ay21 y.objects.length cy21] : Array Value) 30 (0, 0)) ∧ Aside0 (Below w.heap.size w w')) (ds := []) (bm 43 0) (by as_aux_lemma => kernel_rfl) rfl (by as_aux_lemma => kernel_rfl) ⟨(heap_x _ _ _ _), (heap_y _ _ _ _), (Aside0.mk (by repeat (first | exact Below.refl _ _ | (with_reducible first | apply below_alloc | apply pw_below_drewN | apply below_drew1))))⟩ (fun hHeld => ?_)
  generalize World.drew _ = wd at hHeld ⊢
  refine with_tabW same.tab1 same.bits1 (fun HT_ HW_ => ?_)
  refine take_ (i := 0) (N := some 5) (v := ?_) (a' := ?_) (bm 43 1) rfl rfl (take_ofW HT_.out HW_.out (by as_aux_lemma => kernel_rfl)) (fun _ _ _ h => h) (Or.inl ⟨by rfl, ?_⟩) hHeld ?_ ?_
  rotate_left
  · rintro w' ⟨s0, s1, s2⟩
    refine exec_load_row 30 (.tmp 2) ?ha_x (w.heap.size) ?hb_x _ _ _ _ s0 Try.underlying30 ?hc_x ?hd_x
    case ha_x => rfl
    case hb_x => rfl
    case hc_x => rfl
    exact (by as_aux_lemma => kernel_rfl)
  rotate_left
  · simp only [Act.put, List.setIfInBounds_toArray, List.set_cons_zero, List.set_cons_succ, i64_w, i32_w]
    rfl
  refine take_ (i := 2) (N := some 7) (v := ?_) (a' := ?_) (bm 43 5) rfl rfl (take_ofW HT_.out HW_.out (by as_aux_lemma => kernel_rfl)) (fun _ _ _ h => h) (Or.inl ⟨by rfl, ?_⟩) hHeld ?_ ?_
  rotate_left
  · rintro w' ⟨s0, s1, s2⟩
    refine exec_load_row 30 (.tmp 3) ?ha_y (w.heap.size + 1) ?hb_y _ _ _ _ s1 Try.underlying30 ?hc_y ?hd_y
    case ha_y => rfl
    case hb_y => rfl
    case hc_y => rfl
    exact (by as_aux_lemma => kernel_rfl)
  rotate_left
  · simp only [Act.put, List.setIfInBounds_toArray, List.set_cons_zero, List.set_cons_succ, i64_w, i32_w]
    rfl
  refine one_ (i := 1) (N := some 6) (bm 43 7) rfl rfl (one_of HT_.out (by as_aux_lemma => kernel_rfl)) (by as_aux_lemma => decide) (fun K hK => ?_)
  refine goes_ Try.func26 (by as_aux_lemma => kernel_rfl) rfl #[.agg #[.int .u8 x.code, .int .u8 x.fail, .int .u16 x.addr, .int .u16 x.count, .int .u16 x.value, .int .u16 x.and_, .int .u16 x.or_, .int .u16 x.addr2, .int .u16 x.sub, .int .u16 x.status, .int .u16 x.events, .int .u16 x.messages, .slice Ax12 x.words.length cx12, .slice Ax13 x.bits.length cx13, .slice Ax14 x.data.length cx14, .slice Ax15 x.recs.length cx15, .int .u8 x.mei, .int .u8 x.kind, .int .u8 x.level, .int .u8 x.more, .int .u8 x.next, .slice Ax21 x.objects.length cx21]] (by rfl) rfl rfl (by simp only [List.map_toArray, List.map_cons, List.map_nil]; rfl) ?_
  with_reducible refine (plain_any x Ax12 cx12 Ax13 cx13 Ax14 cx14 Ax15 cx15 Ax21 cx21 _ ux0.out.1 ux0.out.2 ux1.out.1 ux1.out.2 ux16.out.1 ux16.out.2 ux17.out.1 ux17.out.2 ux18.out.1 ux18.out.2 ux19.out.1 ux19.out.2 ux20.out.1 ux20.out.2).mono ?_
  rintro e wx1 ⟨rfl, hb⟩
  refine ⟨_, rfl, ?_⟩
  refine hK.out _ _ ⟨((hb.block _ (heap_lt' hHeld.1)).trans hHeld.1), ((hb.block _ (heap_lt' hHeld.2.1)).trans hHeld.2.1), (Aside0.mk (below_step hHeld.2.2.out hb))⟩ (fun hHeld => ?_)
  clear hK K
  refine norm_ (a' := ?_) ?_ ?_
  rotate_left
  · show Act.put _ (some 6) _ = _
    simp only [Act.put, List.setIfInBounds_toArray, List.set_cons_zero, List.set_cons_succ, i64_w, i32_w]
    rfl
  generalize Value.agg #[.int .u8 x.code, .int .u8 x.fail, .int .u16 x.addr, .int .u16 x.count, .int .u16 x.value, .int .u16 x.and_, .int .u16 x.or_, .int .u16 x.addr2, .int .u16 x.sub, .int .u16 x.status, .int .u16 x.events, .int .u16 x.messages, .slice Ax12 x.words.length cx12, .slice Ax13 x.bits.length cx13, .slice Ax14 x.data.length cx14, .slice Ax15 x.recs.length cx15, .int .u8 x.mei, .int .u8 x.kind, .int .u8 x.level, .int .u8 x.more, .int .u8 x.next, .slice Ax21 x.objects.length cx21] = g5
  refine one_ (i := 3) (N := some 8) (bm 43 15) rfl rfl (one_of HT_.out (by as_aux_lemma => kernel_rfl)) (by as_aux_lemma => decide) (fun K hK => ?_)
  refine goes_ Try.func26 (by as_aux_lemma => kernel_rfl) rfl #[.agg #[.int .u8 y.code, .int .u8 y.fail, .int .u16 y.addr, .int .u16 y.count, .int .u16 y.value, .int .u16 y.and_, .int .u16 y.or_, .int .u16 y.addr2, .int .u16 y.sub, .int .u16 y.status, .int .u16 y.events, .int .u16 y.messages, .slice Ay12 y.words.length cy12, .slice Ay13 y.bits.length cy13, .slice Ay14 y.data.length cy14, .slice Ay15 y.recs.length cy15, .int .u8 y.mei, .int .u8 y.kind, .int .u8 y.level, .int .u8 y.more, .int .u8 y.next, .slice Ay21 y.objects.length cy21]] (by rfl) rfl rfl (by simp only [List.map_toArray, List.map_cons, List.map_nil]; rfl) ?_
  with_reducible refine (plain_any y Ay12 cy12 Ay13 cy13 Ay14 cy14 Ay15 cy15 Ay21 cy21 _ uy0.out.1 uy0.out.2 uy1.out.1 uy1.out.2 uy16.out.1 uy16.out.2 uy17.out.1 uy17.out.2 uy18.out.1 uy18.out.2 uy19.out.1 uy19.out.2 uy20.out.1 uy20.out.2).mono ?_
  rintro e wy1 ⟨rfl, hb⟩
  refine ⟨_, rfl, ?_⟩
  refine hK.out _ _ ⟨((hb.block _ (heap_lt' hHeld.1)).trans hHeld.1), ((hb.block _ (heap_lt' hHeld.2.1)).trans hHeld.2.1), (Aside0.mk (below_step hHeld.2.2.out hb))⟩ (fun hHeld => ?_)
  clear hK K
  refine norm_ (a' := ?_) ?_ ?_
  rotate_left
  · show Act.put _ (some 8) _ = _
    simp only [Act.put, List.setIfInBounds_toArray, List.set_cons_zero, List.set_cons_succ, i64_w, i32_w]
    rfl
  generalize Value.agg #[.int .u8 y.code, .int .u8 y.fail, .int .u16 y.addr, .int .u16 y.count, .int .u16 y.value, .int .u16 y.and_, .int .u16 y.or_, .int .u16 y.addr2, .int .u16 y.sub, .int .u16 y.status, .int .u16 y.events, .int .u16 y.messages, .slice Ay12 y.words.length cy12, .slice Ay13 y.bits.length cy13, .slice Ay14 y.data.length cy14, .slice Ay15 y.recs.length cy15, .int .u8 y.mei, .int .u8 y.kind, .int .u8 y.level, .int .u8 y.more, .int .u8 y.next, .slice Ay21 y.objects.length cy21] = g7
  refine pure_ (i := 4) (N := some 9) (v := ?_) (a' := ?_) (bm 43 31) rfl rfl (any_of HT_.out (by as_aux_lemma => kernel_rfl)) (fun _ _ _ h => h) (Or.inl ⟨by rfl, ?_⟩) ?_ ?_
  rotate_left
  · intro w'
    go_simp
    with_reducible rfl
  rotate_left
  · simp only [Act.put, List.setIfInBounds_toArray, List.set_cons_zero, List.set_cons_succ, i64_w, i32_w]
    rfl
  generalize Value.agg #[.int .u16 x.code, .int .u16 x.fail, .int .u16 x.addr, .int .u16 x.count, .int .u16 x.value, .int .u16 x.and_, .int .u16 x.or_, .int .u16 x.addr2, .int .u16 x.sub, .int .u16 x.status, .int .u16 x.events, .int .u16 x.messages, .int .u16 (shB x.mei x.kind), .int .u16 (shB x.level x.more), .int .u16 x.next] = g6
  generalize Value.agg #[.int .u16 y.code, .int .u16 y.fail, .int .u16 y.addr, .int .u16 y.count, .int .u16 y.value, .int .u16 y.and_, .int .u16 y.or_, .int .u16 y.addr2, .int .u16 y.sub, .int .u16 y.status, .int .u16 y.events, .int .u16 y.messages, .int .u16 (shB y.mei y.kind), .int .u16 (shB y.level y.more), .int .u16 y.next] = g8
  refine pure_ (i := 5) (N := some 10) (v := ?_) (a' := ?_) (bm 43 63) rfl rfl (any_of HT_.out (by as_aux_lemma => kernel_rfl)) (fun _ _ _ h => h) (Or.inl ⟨by rfl, ?_⟩) ?_ ?_
  rotate_left
  · intro w'
    go_simp
    with_reducible rfl
  rotate_left
  · simp only [Act.put, List.setIfInBounds_toArray, List.set_cons_zero, List.set_cons_succ, i64_w, i32_w]
    rfl
  refine pure_ (i := 6) (N := some 11) (v := ?_) (a' := ?_) (bm 43 127) rfl rfl (any_of HT_.out (by as_aux_lemma => kernel_rfl)) (fun _ _ _ h => h) (Or.inl ⟨by rfl, ?_⟩) ?_ ?_
  rotate_left
  · intro w'
    go_simp
    with_reducible rfl
  rotate_left
  · simp only [Act.put, List.setIfInBounds_toArray, List.set_cons_zero, List.set_cons_succ, i64_w, i32_w]
    rfl
  refine pure_ (i := 8) (N := some 13) (v := ?_) (a' := ?_) (bm 43 383) rfl rfl (any_of HT_.out (by as_aux_lemma => kernel_rfl)) (fun _ _ _ h => h) (Or.inl ⟨by rfl, ?_⟩) ?_ ?_
  rotate_left
  · intro w'
    go_simp
    with_reducible rfl
  rotate_left
  · simp only [Act.put, List.setIfInBounds_toArray, List.set_cons_zero, List.set_cons_succ, i64_w, i32_w]
    rfl
  refine take_ (i := 7) (N := some 12) (v := ?_) (a' := ?_) (bm 43 511) rfl rfl (take_ofW HT_.out HW_.out (by as_aux_lemma => kernel_rfl)) (fun _ _ _ h => h) (Or.inl ⟨by rfl, ?_⟩) hHeld ?_ ?_
  rotate_left
  · rintro w' ⟨s0, s1, s2⟩
    have hq : w'.cell? ⟨w.heap.size, 12, none⟩ = some (.slice Ax12 x.words.length cx12) := cell_of_row w' _ 12 _ _ _ s0
    clear s0 s1 s2
    go_simp
    with_reducible rfl
  rotate_left
  · simp only [Act.put, List.setIfInBounds_toArray, List.set_cons_zero, List.set_cons_succ, i64_w, i32_w]
    rfl
  refine take_ (i := 9) (N := some 14) (v := ?_) (a' := ?_) (bm 43 1023) rfl rfl (take_ofW HT_.out HW_.out (by as_aux_lemma => kernel_rfl)) (fun _ _ _ h => h) (Or.inl ⟨by rfl, ?_⟩) hHeld ?_ ?_
  rotate_left
  · rintro w' ⟨s0, s1, s2⟩
    have hq : w'.cell? ⟨w.heap.size + 1, 12, none⟩ = some (.slice Ay12 y.words.length cy12) := cell_of_row w' _ 12 _ _ _ s1
    clear s0 s1 s2
    go_simp
    with_reducible rfl
  rotate_left
  · simp only [Act.put, List.setIfInBounds_toArray, List.set_cons_zero, List.set_cons_succ, i64_w, i32_w]
    rfl
  refine one_ (i := 10) (N := some 15) (bm 43 2047) rfl rfl (one_of HT_.out (by as_aux_lemma => kernel_rfl)) (by as_aux_lemma => decide) (fun K hK => ?_)
  refine goes_ Try.func27 (by as_aux_lemma => kernel_rfl) rfl #[.slice Ax12 x.words.length cx12, .slice Ay12 y.words.length cy12] (by rfl) rfl rfl (by simp only [List.map_toArray, List.map_cons, List.map_nil]; rfl) ?_
  with_reducible refine (slices_Equal_uint16_uint16.calls k1 _ _ x.words _ _ y.words false _ (Kd.C_below HRx12.out hHeld.2.2.out) hcx12 (Kd.C_below HRy12.out hHeld.2.2.out) hcy12 P1.out).mono ?_
  rintro e w2 ⟨rfl, ⟨nd1, rfl⟩⟩
  refine ⟨_, rfl, ?_⟩
  refine hK.out _ _ ⟨hHeld.1, hHeld.2.1, (Aside0.mk (pw_below_drewN hHeld.2.2.out _))⟩ (fun hHeld => ?_)
  clear hK K
  refine norm_ (a' := ?_) ?_ ?_
  rotate_left
  · show Act.put _ (some 15) _ = _
    simp only [Act.put, List.setIfInBounds_toArray, List.set_cons_zero, List.set_cons_succ, i64_w, i32_w]
    rfl
  refine pure_ (i := 11) (N := some 16) (v := ?_) (a' := ?_) (bm 43 4095) rfl rfl (any_of HT_.out (by as_aux_lemma => kernel_rfl)) (fun _ _ _ h => h) (Or.inl ⟨by rfl, ?_⟩) ?_ ?_
  rotate_left
  · intro w'
    go_simp
    with_reducible rfl
  rotate_left
  · simp only [Act.put, List.setIfInBounds_toArray, List.set_cons_zero, List.set_cons_succ, i64_w, i32_w]
    rfl
  refine pure_ (i := 12) (N := some 17) (v := ?_) (a' := ?_) (bm 43 8191) rfl rfl (any_of HT_.out (by as_aux_lemma => kernel_rfl)) (fun _ _ _ h => h) (Or.inl ⟨by rfl, ?_⟩) ?_ ?_
  rotate_left
  · intro w'
    go_simp
    with_reducible rfl
  rotate_left
  · simp only [Act.put, List.setIfInBounds_toArray, List.set_cons_zero, List.set_cons_succ, i64_w, i32_w]
    rfl
  refine pure_ (i := 13) (N := some 18) (v := undef) (a' := ?_) (bm 43 16383) rfl rfl (any_of HT_.out (by as_aux_lemma => kernel_rfl)) (fun _ _ _ h => h) (Or.inr ⟨by rfl, rfl⟩) ?_ ?_
  rotate_left
  · simp only [Act.put, List.setIfInBounds_toArray, List.set_cons_zero, List.set_cons_succ, i64_w, i32_w]
    rfl
  refine pure_ (i := 14) (N := some 19) (v := undef) (a' := ?_) (bm 43 32767) rfl rfl (any_of HT_.out (by as_aux_lemma => kernel_rfl)) (fun _ _ _ h => h) (Or.inr ⟨by rfl, rfl⟩) ?_ ?_
  rotate_left
  · simp only [Act.put, List.setIfInBounds_toArray, List.set_cons_zero, List.set_cons_succ, i64_w, i32_w]
    rfl
  refine pure_ (i := 15) (N := some 20) (v := undef) (a' := ?_) (bm 43 65535) rfl rfl (any_of HT_.out (by as_aux_lemma => kernel_rfl)) (fun _ _ _ h => h) (Or.inr ⟨by rfl, rfl⟩) ?_ ?_
  rotate_left
  · simp only [Act.put, List.setIfInBounds_toArray, List.set_cons_zero, List.set_cons_succ, i64_w, i32_w]
    rfl
  refine pure_ (i := 16) (N := some 21) (v := undef) (a' := ?_) (bm 43 131071) rfl rfl (any_of HT_.out (by as_aux_lemma => kernel_rfl)) (fun _ _ _ h => h) (Or.inr ⟨by rfl, rfl⟩) ?_ ?_
  rotate_left
  · simp only [Act.put, List.setIfInBounds_toArray, List.set_cons_zero, List.set_cons_succ, i64_w, i32_w]
    rfl
  refine pure_ (i := 17) (N := some 22) (v := undef) (a' := ?_) (bm 43 262143) rfl rfl (any_of HT_.out (by as_aux_lemma => kernel_rfl)) (fun _ _ _ h => h) (Or.inr ⟨by rfl, rfl⟩) ?_ ?_
  rotate_left
  · simp only [Act.put, List.setIfInBounds_toArray, List.set_cons_zero, List.set_cons_succ, i64_w, i32_w]
    rfl
  refine pure_ (i := 18) (N := some 23) (v := ?_) (a' := ?_) (bm 43 524287) rfl rfl (any_of HT_.out (by as_aux_lemma => kernel_rfl)) (fun _ _ _ h => h) (Or.inl ⟨by rfl, ?_⟩) ?_ ?_
  rotate_left
  · intro w'
    go_simp
    with_reducible rfl
  rotate_left
  · simp only [Act.put, List.setIfInBounds_toArray, List.set_cons_zero, List.set_cons_succ, i64_w, i32_w]
    rfl
  refine pure_ (i := 19) (N := some 24) (v := ?_) (a' := ?_) (bm 43 1048575) rfl rfl (any_of HT_.out (by as_aux_lemma => kernel_rfl)) (fun _ _ _ h => h) (Or.inl ⟨by rfl, ?_⟩) ?_ ?_
  rotate_left
  · intro w'
    go_simp
    with_reducible rfl
  rotate_left
  · simp only [Act.put, List.setIfInBounds_toArray, List.set_cons_zero, List.set_cons_succ, i64_w, i32_w]
    rfl
  refine pure_ (i := 20) (N := some 25) (v := undef) (a' := ?_) (bm 43 2097151) rfl rfl (any_of HT_.out (by as_aux_lemma => kernel_rfl)) (fun _ _ _ h => h) (Or.inr ⟨by rfl, rfl⟩) ?_ ?_
  rotate_left
  · simp only [Act.put, List.setIfInBounds_toArray, List.set_cons_zero, List.set_cons_succ, i64_w, i32_w]
    rfl
  refine pure_ (i := 21) (N := some 26) (v := undef) (a' := ?_) (bm 43 4194303) rfl rfl (any_of HT_.out (by as_aux_lemma => kernel_rfl)) (fun _ _ _ h => h) (Or.inr ⟨by rfl, rfl⟩) ?_ ?_
  rotate_left
  · simp only [Act.put, List.setIfInBounds_toArray, List.set_cons_zero, List.set_cons_succ, i64_w, i32_w]
    rfl
  refine pure_ (i := 22) (N := some 27) (v := undef) (a' := ?_) (bm 43 8388607) rfl rfl (any_of HT_.out (by as_aux_lemma => kernel_rfl)) (fun _ _ _ h => h) (Or.inr ⟨by rfl, rfl⟩) ?_ ?_
  rotate_left
  · simp only [Act.put, List.setIfInBounds_toArray, List.set_cons_zero, List.set_cons_succ, i64_w, i32_w]
    rfl
  refine pure_ (i := 23) (N := some 28) (v := undef) (a' := ?_) (bm 43 16777215) rfl rfl (any_of HT_.out (by as_aux_lemma => kernel_rfl)) (fun _ _ _ h => h) (Or.inr ⟨by rfl, rfl⟩) ?_ ?_
  rotate_left
  · simp only [Act.put, List.setIfInBounds_toArray, List.set_cons_zero, List.set_cons_succ, i64_w, i32_w]
    rfl
  refine pure_ (i := 24) (N := some 29) (v := undef) (a' := ?_) (bm 43 33554431) rfl rfl (any_of HT_.out (by as_aux_lemma => kernel_rfl)) (fun _ _ _ h => h) (Or.inr ⟨by rfl, rfl⟩) ?_ ?_
  rotate_left
  · simp only [Act.put, List.setIfInBounds_toArray, List.set_cons_zero, List.set_cons_succ, i64_w, i32_w]
    rfl
  refine pure_ (i := 25) (N := some 30) (v := undef) (a' := ?_) (bm 43 67108863) rfl rfl (any_of HT_.out (by as_aux_lemma => kernel_rfl)) (fun _ _ _ h => h) (Or.inr ⟨by rfl, rfl⟩) ?_ ?_
  rotate_left
  · simp only [Act.put, List.setIfInBounds_toArray, List.set_cons_zero, List.set_cons_succ, i64_w, i32_w]
    rfl
  refine pure_ (i := 26) (N := some 31) (v := undef) (a' := ?_) (bm 43 134217727) rfl rfl (any_of HT_.out (by as_aux_lemma => kernel_rfl)) (fun _ _ _ h => h) (Or.inr ⟨by rfl, rfl⟩) ?_ ?_
  rotate_left
  · simp only [Act.put, List.setIfInBounds_toArray, List.set_cons_zero, List.set_cons_succ, i64_w, i32_w]
    rfl
  refine pure_ (i := 27) (N := some 32) (v := ?_) (a' := ?_) (bm 43 268435455) rfl rfl (any_of HT_.out (by as_aux_lemma => kernel_rfl)) (fun _ _ _ h => h) (Or.inl ⟨by rfl, ?_⟩) ?_ ?_
  rotate_left
  · intro w'
    go_simp
    with_reducible rfl
  rotate_left
  · simp only [Act.put, List.setIfInBounds_toArray, List.set_cons_zero, List.set_cons_succ, i64_w, i32_w]
    rfl
  refine pure_ (i := 28) (N := some 33) (v := ?_) (a' := ?_) (bm 43 536870911) rfl rfl (any_of HT_.out (by as_aux_lemma => kernel_rfl)) (fun _ _ _ h => h) (Or.inl ⟨by rfl, ?_⟩) ?_ ?_
  rotate_left
  · intro w'
    go_simp
    with_reducible rfl
  rotate_left
  · simp only [Act.put, List.setIfInBounds_toArray, List.set_cons_zero, List.set_cons_succ, i64_w, i32_w]
    rfl
  refine pure_ (i := 29) (N := some 34) (v := undef) (a' := ?_) (bm 43 1073741823) rfl rfl (any_of HT_.out (by as_aux_lemma => kernel_rfl)) (fun _ _ _ h => h) (Or.inr ⟨by rfl, rfl⟩) ?_ ?_
  rotate_left
  · simp only [Act.put, List.setIfInBounds_toArray, List.set_cons_zero, List.set_cons_succ, i64_w, i32_w]
    rfl
  refine pure_ (i := 30) (N := some 35) (v := undef) (a' := ?_) (bm 43 2147483647) rfl rfl (any_of HT_.out (by as_aux_lemma => kernel_rfl)) (fun _ _ _ h => h) (Or.inr ⟨by rfl, rfl⟩) ?_ ?_
  rotate_left
  · simp only [Act.put, List.setIfInBounds_toArray, List.set_cons_zero, List.set_cons_succ, i64_w, i32_w]
    rfl
  refine pure_ (i := 31) (N := some 36) (v := undef) (a' := ?_) (bm 43 4294967295) rfl rfl (any_of HT_.out (by as_aux_lemma => kernel_rfl)) (fun _ _ _ h => h) (Or.inr ⟨by rfl, rfl⟩) ?_ ?_
  rotate_left
  · simp only [Act.put, List.setIfInBounds_toArray, List.set_cons_zero, List.set_cons_succ, i64_w, i32_w]
    rfl
  refine pure_ (i := 32) (N := some 37) (v := undef) (a' := ?_) (bm 43 8589934591) rfl rfl (any_of HT_.out (by as_aux_lemma => kernel_rfl)) (fun _ _ _ h => h) (Or.inr ⟨by rfl, rfl⟩) ?_ ?_
  rotate_left
  · simp only [Act.put, List.setIfInBounds_toArray, List.set_cons_zero, List.set_cons_succ, i64_w, i32_w]
    rfl
  refine pure_ (i := 33) (N := some 38) (v := undef) (a' := ?_) (bm 43 17179869183) rfl rfl (any_of HT_.out (by as_aux_lemma => kernel_rfl)) (fun _ _ _ h => h) (Or.inr ⟨by rfl, rfl⟩) ?_ ?_
  rotate_left
  · simp only [Act.put, List.setIfInBounds_toArray, List.set_cons_zero, List.set_cons_succ, i64_w, i32_w]
    rfl
  refine pure_ (i := 34) (N := some 39) (v := ?_) (a' := ?_) (bm 43 34359738367) rfl rfl (any_of HT_.out (by as_aux_lemma => kernel_rfl)) (fun _ _ _ h => h) (Or.inl ⟨by rfl, ?_⟩) ?_ ?_
  rotate_left
  · intro w'
    go_simp
    with_reducible rfl
  rotate_left
  · simp only [Act.put, List.setIfInBounds_toArray, List.set_cons_zero, List.set_cons_succ, i64_w, i32_w]
    rfl
  refine pure_ (i := 35) (N := some 40) (v := ?_) (a' := ?_) (bm 43 68719476735) rfl rfl (any_of HT_.out (by as_aux_lemma => kernel_rfl)) (fun _ _ _ h => h) (Or.inl ⟨by rfl, ?_⟩) ?_ ?_
  rotate_left
  · intro w'
    go_simp
    with_reducible rfl
  rotate_left
  · simp only [Act.put, List.setIfInBounds_toArray, List.set_cons_zero, List.set_cons_succ, i64_w, i32_w]
    rfl
  refine pure_ (i := 36) (N := some 41) (v := undef) (a' := ?_) (bm 43 137438953471) rfl rfl (any_of HT_.out (by as_aux_lemma => kernel_rfl)) (fun _ _ _ h => h) (Or.inr ⟨by rfl, rfl⟩) ?_ ?_
  rotate_left
  · simp only [Act.put, List.setIfInBounds_toArray, List.set_cons_zero, List.set_cons_succ, i64_w, i32_w]
    rfl
  refine pure_ (i := 37) (N := some 42) (v := undef) (a' := ?_) (bm 43 274877906943) rfl rfl (any_of HT_.out (by as_aux_lemma => kernel_rfl)) (fun _ _ _ h => h) (Or.inr ⟨by rfl, rfl⟩) ?_ ?_
  rotate_left
  · simp only [Act.put, List.setIfInBounds_toArray, List.set_cons_zero, List.set_cons_succ, i64_w, i32_w]
    rfl
  refine pure_ (i := 38) (N := some 43) (v := undef) (a' := ?_) (bm 43 549755813887) rfl rfl (any_of HT_.out (by as_aux_lemma => kernel_rfl)) (fun _ _ _ h => h) (Or.inr ⟨by rfl, rfl⟩) ?_ ?_
  rotate_left
  · simp only [Act.put, List.setIfInBounds_toArray, List.set_cons_zero, List.set_cons_succ, i64_w, i32_w]
    rfl
  refine pure_ (i := 39) (N := some 44) (v := undef) (a' := ?_) (bm 43 1099511627775) rfl rfl (any_of HT_.out (by as_aux_lemma => kernel_rfl)) (fun _ _ _ h => h) (Or.inr ⟨by rfl, rfl⟩) ?_ ?_
  rotate_left
  · simp only [Act.put, List.setIfInBounds_toArray, List.set_cons_zero, List.set_cons_succ, i64_w, i32_w]
    rfl
  refine pure_ (i := 40) (N := some 45) (v := undef) (a' := ?_) (bm 43 2199023255551) rfl rfl (any_of HT_.out (by as_aux_lemma => kernel_rfl)) (fun _ _ _ h => h) (Or.inr ⟨by rfl, rfl⟩) ?_ ?_
  rotate_left
  · simp only [Act.put, List.setIfInBounds_toArray, List.set_cons_zero, List.set_cons_succ, i64_w, i32_w]
    rfl
  refine pure_ (i := 41) (N := some 46) (v := ?_) (a' := ?_) (bm 43 4398046511103) rfl rfl (any_of HT_.out (by as_aux_lemma => kernel_rfl)) (fun _ _ _ h => h) (Or.inl ⟨by rfl, ?_⟩) ?_ ?_
  rotate_left
  · intro w'
    go_simp
    with_reducible rfl
  rotate_left
  · simp only [Act.put, List.setIfInBounds_toArray, List.set_cons_zero, List.set_cons_succ, i64_w, i32_w]
    rfl
  refine pure_ (i := 42) (N := some 4) (v := ?_) (a' := ?_) (bm 43 8796093022207) rfl rfl (any_of HT_.out (by as_aux_lemma => kernel_rfl)) (fun _ _ _ h => h) (Or.inl ⟨by rfl, ?_⟩) ?_ ?_
  rotate_left
  · intro w'
    go_simp
    with_reducible rfl
  rotate_left
  · simp only [Act.put, List.setIfInBounds_toArray, List.set_cons_zero, List.set_cons_succ, i64_w, i32_w]
    rfl
  refine done_ (done_of HT_.out (by as_aux_lemma => kernel_rfl)) ?_

  go_wp2
  go_ret
  exact ⟨rfl, hHeld.2.2.out⟩

set_option maxHeartbeats 8000000 in
set_option maxRecDepth 100000 in
theorem same_2 (x y : Msg) (Ax12 : Option Addr) (cx12 : Nat) (Ax13 : Option Addr) (cx13 : Nat) (Ax14 : Option Addr) (cx14 : Nat) (Ax15 : Option Addr) (cx15 : Nat) (Ax21 : Option Addr) (cx21 : Nat) (Ay12 : Option Addr) (cy12 : Nat) (Ay13 : Option Addr) (cy13 : Nat) (Ay14 : Option Addr) (cy14 : Nat) (Ay15 : Option Addr) (cy15 : Nat) (Ay21 : Option Addr) (cy21 : Nat) (w : World) (hrx12 : Kd.C (Kd.int .u16) w Ax12 x.words.length x.words) (hcx12 : x.words.length ≤ cx12) (hrx13 : Kd.C Kd.bool w Ax13 x.bits.length x.bits) (hcx13 : x.bits.length ≤ cx13) (hrx14 : Kd.C (Kd.int .u8) w Ax14 x.data.length x.data) (hcx14 : x.data.length ≤ cx14) (hrx15 : Kd.C k50 w Ax15 x.recs.length x.recs) (hcx15 : x.recs.length ≤ cx15) (hrx21 : Kd.C k52 w Ax21 x.objects.length x.objects) (hcx21 : x.objects.length ≤ cx21) (hry12 : Kd.C (Kd.int .u16) w Ay12 y.words.length y.words) (hcy12 : y.words.length ≤ cy12) (hry13 : Kd.C Kd.bool w Ay13 y.bits.length y.bits) (hcy13 : y.bits.length ≤ cy13) (hry14 : Kd.C (Kd.int .u8) w Ay14 y.data.length y.data) (hcy14 : y.data.length ≤ cy14) (hry15 : Kd.C k50 w Ay15 y.recs.length y.recs) (hcy15 : y.recs.length ≤ cy15) (hry21 : Kd.C k52 w Ay21 y.objects.length y.objects) (hcy21 : y.objects.length ≤ cy21) (vx0 : 0 ≤ x.code ∧ x.code < 256) (vx1 : 0 ≤ x.fail ∧ x.fail < 256) (vx16 : 0 ≤ x.mei ∧ x.mei < 256) (vx17 : 0 ≤ x.kind ∧ x.kind < 256) (vx18 : 0 ≤ x.level ∧ x.level < 256) (vx19 : 0 ≤ x.more ∧ x.more < 256) (vx20 : 0 ≤ x.next ∧ x.next < 256) (vy0 : 0 ≤ y.code ∧ y.code < 256) (vy1 : 0 ≤ y.fail ∧ y.fail < 256) (vy16 : 0 ≤ y.mei ∧ y.mei < 256) (vy17 : 0 ≤ y.kind ∧ y.kind < 256) (vy18 : 0 ≤ y.level ∧ y.level < 256) (vy19 : 0 ≤ y.more ∧ y.more < 256) (vy20 : 0 ≤ y.next ∧ y.next < 256) (ox_ : ∀ q ∈ x.objects, q.f1.all u8B = true) (oy_ : ∀ q ∈ y.objects, q.f1.all u8B = true) (b0 : eqL [x.code, x.fail, x.addr, x.count, x.value, x.and_, x.or_, x.addr2, x.sub, x.status, x.events, x.messages, shB x.mei x.kind, shB x.level x.more, x.next] [y.code, y.fail, y.addr, y.count, y.value, y.and_, y.or_, y.addr2, y.sub, y.status, y.events, y.messages, shB y.mei y.kind, shB y.level y.more, y.next] = true) (k1 : Nat) (p1 : slices_Equal_uint16_uint16.f k1 x.words y.words = some true) (k2 : Nat) (p2 : slices_Equal_bool_bool.f k2 x.bits y.bits = some false) :
    Calls Try.prog 24 #[.agg #[.int .u8 x.code, .int .u8 x.fail, .int .u16 x.addr, .int .u16 x.count, .int .u16 x.value, .int .u16 x.and_, .int .u16 x.or_, .int .u16 x.addr2, .int .u16 x.sub, .int .u16 x.status, .int .u16 x.events, .int .u16 x.messages, .slice Ax12 x.words.length cx12, .slice Ax13 x.bits.length cx13, .slice Ax14 x.data.length cx14, .slice Ax15 x.recs.length cx15, .int .u8 x.mei, .int .u8 x.kind, .int .u8 x.level, .int .u8 x.more, .int .u8 x.next, .slice Ax21 x.objects.length cx21], .agg #[.int .u8 y.code, .int .u8 y.fail, .int .u16 y.addr, .int .u16 y.count, .int .u16 y.value, .int .u16 y.and_, .int .u16 y.or_, .int .u16 y.addr2, .int .u16 y.sub, .int .u16 y.status, .int .u16 y.events, .int .u16 y.messages, .slice Ay12 y.words.length cy12, .slice Ay13 y.bits.length cy13, .slice Ay14 y.data.length cy14, .slice Ay15 y.recs.length cy15, .int .u8 y.mei, .int .u8 y.kind, .int .u8 y.level, .int .u8 y.more, .int .u8 y.next, .slice Ay21 y.objects.length cy21]] w fun e w' => e = .returned (.bool false) ∧ Below w.heap.size w w' := by
  have HRx12 := Aside0.mk hrx12
  have HRx13 := Aside0.mk hrx13
  have HRx14 := Aside0.mk hrx14
  have HRx15 := Aside0.mk hrx15
  have HRx21 := Aside0.mk hrx21
  have HRy12 := Aside0.mk hry12
  have HRy13 := Aside0.mk hry13
  have HRy14 := Aside0.mk hry14
  have HRy15 := Aside0.mk hry15
  have HRy21 := Aside0.mk hry21
  have ux0 := Aside0.mk vx0
  have ux1 := Aside0.mk vx1
  have ux16 := Aside0.mk vx16
  have ux17 := Aside0.mk vx17
  have ux18 := Aside0.mk vx18
  have ux19 := Aside0.mk vx19
  have ux20 := Aside0.mk vx20
  have uy0 := Aside0.mk vy0
  have uy1 := Aside0.mk vy1
  have uy16 := Aside0.mk vy16
  have uy17 := Aside0.mk vy17
  have uy18 := Aside0.mk vy18
  have uy19 := Aside0.mk vy19
  have uy20 := Aside0.mk vy20
  have ox := Aside0.mk ox_
  have oy := Aside0.mk oy_
  have P1 := Aside0.mk p1
  have P2 := Aside0.mk p2
  clear hrx12 hrx13 hrx14 hrx15 hrx21 hry12 hry13 hry14 hry15 hry21 vx0 vx1 vx16 vx17 vx18 vx19 vx20 vy0 vy1 vy16 vy17 vy18 vy19 vy20 ox_ oy_ p1 p2
  have hu1 := Try.underlying30
  go_enter Try.func24, Try.ntmps24
  go_wp2
  generalize Value.agg #[.int .u8 x.code, .int .u8 x.fail, .int .u16 x.addr, .int .u16 x.count, .int .u16 x.value, .int .u16 x.and_, .int .u16 x.or_, .int .u16 x.addr2, .int .u16 x.sub, .int .u16 x.status, .int .u16 x.events, .int .u16 x.messages, .slice Ax12 x.words.length cx12, .slice Ax13 x.bits.length cx13, .slice Ax14 x.data.length cx14, .slice Ax15 x.recs.length cx15, .int .u8 x.mei, .int .u8 x.kind, .int .u8 x.level, .int .u8 x.more, .int .u8 x.next, .slice Ax21 x.objects.length cx21] = g0
  generalize Value.agg #[.int .u8 y.code, .int .u8 y.fail, .int .u16 y.addr, .int .u16 y.count, .int .u16 y.value, .int .u16 y.and_, .int .u16 y.or_, .int .u16 y.addr2, .int .u16 y.sub, .int .u16 y.status, .int .u16 y.events, .int .u16 y.messages, .slice Ay12 y.words.length cy12, .slice Ay13 y.bits.length cy13, .slice Ay14 y.data.length cy14, .slice Ay15 y.recs.length cy15, .int .u8 y.mei, .int .u8 y.kind, .int .u8 y.level, .int .u8 y.more, .int .u8 y.next, .slice Ay21 y.objects.length cy21] = g1
  refine start_ (n := 43) (S := fun w' => w'.heap[w.heap.size]? = some (.cells (#[.int .u8 x.code, .int .u8 x.fail, .int .u16 x.addr, .int .u16 x.count, .int .u16 x.value, .int .u16 x.and_, .int .u16 x.or_, .int .u16 x.addr2, .int .u16 x.sub, .int .u16 x.status, .int .u16 x.events, .int .u16 x.messages, .slice Ax12 x.words.length cx12, .slice Ax13 x.bits.length cx13, .slice Ax14 x.data.length cx14, .slice Ax15 x.recs.length cx15, .int .u8 x.mei, .int .u8 x.kind, .int .u8 x.level, .int .u8 x.more, .int .u8 x.next, .slice Ax21 x.objects.length cx21] : Array Value) 30 (0, 0)) ∧ w'.heap[w.heap.size + 1]? = some (.cells (#[.int .u8 y.code, .int .u8 y.fail, .int .u16 y.addr, .int .u16 y.count, .int .u16 y.value, .int .u16 y.and_, .int .u16 y.or_, .int .u16 y.addr2, .int .u16 y.sub, .int .u16 y.status, .int .u16 y.events, .int .u16 y.messages, .slice Ay12 y.words.length cy12, .slice Ay13 y.bits.length cy13, .slice Ay14 y.data.length cy14, .slice Ay15 y.recs.length cy15, .int .u8 y.mei, .int .u8 y.kind, .int .u8 y.level, .int .u8 y.more, .int .u8 y.next, .slice Ay21 y.objects.length cy21] : Array Value) 30 (0, 0)) ∧ Aside0 (Below w.heap.size w w')) (ds := []) (bm 43 0) (by as_aux_lemma => kernel_rfl) rfl (by as_aux_lemma => kernel_rfl) ⟨(heap_x _ _ _ _), (heap_y _ _ _ _), (Aside0.mk (by repeat (first | exact Below.refl _ _ | (with_reducible first | apply below_alloc | apply pw_below_drewN | apply below_drew1))))⟩ (fun hHeld => ?_)
  generalize World.drew _ = wd at hHeld ⊢
  refine with_tabW same.tab1 same.bits1 (fun HT_ HW_ => ?_)
  refine take_ (i := 0) (N := some 5) (v := ?_) (a' := ?_) (bm 43 1) rfl rfl (take_ofW HT_.out HW_.out (by as_aux_lemma => kernel_rfl)) (fun _ _ _ h => h) (Or.inl ⟨by rfl, ?_⟩) hHeld ?_ ?_
  rotate_left
  · rintro w' ⟨s0, s1, s2⟩
    refine exec_load_row 30 (.tmp 2) ?ha_x (w.heap.size) ?hb_x _ _ _ _ s0 Try.underlying30 ?hc_x ?hd_x
    case ha_x => rfl
    case hb_x => rfl
    case hc_x => rfl
    exact (by as_aux_lemma => kernel_rfl)
  rotate_left
  · simp only [Act.put, List.setIfInBounds_toArray, List.set_cons_zero, List.set_cons_succ, i64_w, i32_w]
    rfl
  refine take_ (i := 2) (N := some 7) (v := ?_) (a' := ?_) (bm 43 5) rfl rfl (take_ofW HT_.out HW_.out (by as_aux_lemma => kernel_rfl)) (fun _ _ _ h => h) (Or.inl ⟨by rfl, ?_⟩) hHeld ?_ ?_
  rotate_left
  · rintro w' ⟨s0, s1, s2⟩
    refine exec_load_row 30 (.tmp 3) ?ha_y (w.heap.size + 1) ?hb_y _ _ _ _ s1 Try.underlying30 ?hc_y ?hd_y
    case ha_y => rfl
    case hb_y => rfl
    case hc_y => rfl
    exact (by as_aux_lemma => kernel_rfl)
  rotate_left
  · simp only [Act.put, List.setIfInBounds_toArray, List.set_cons_zero, List.set_cons_succ, i64_w, i32_w]
    rfl
  refine one_ (i := 1) (N := some 6) (bm 43 7) rfl rfl (one_of HT_.out (by as_aux_lemma => kernel_rfl)) (by as_aux_lemma => decide) (fun K hK => ?_)
  refine goes_ Try.func26 (by as_aux_lemma => kernel_rfl) rfl #[.agg #[.int .u8 x.code, .int .u8 x.fail, .int .u16 x.addr, .int .u16 x.count, .int .u16 x.value, .int .u16 x.and_, .int .u16 x.or_, .int .u16 x.addr2, .int .u16 x.sub, .int .u16 x.status, .int .u16 x.events, .int .u16 x.messages, .slice Ax12 x.words.length cx12, .slice Ax13 x.bits.length cx13, .slice Ax14 x.data.length cx14, .slice Ax15 x.recs.length cx15, .int .u8 x.mei, .int .u8 x.kind, .int .u8 x.level, .int .u8 x.more, .int .u8 x.next, .slice Ax21 x.objects.length cx21]] (by rfl) rfl rfl (by simp only [List.map_toArray, List.map_cons, List.map_nil]; rfl) ?_
  with_reducible refine (plain_any x Ax12 cx12 Ax13 cx13 Ax14 cx14 Ax15 cx15 Ax21 cx21 _ ux0.out.1 ux0.out.2 ux1.out.1 ux1.out.2 ux16.out.1 ux16.out.2 ux17.out.1 ux17.out.2 ux18.out.1 ux18.out.2 ux19.out.1 ux19.out.2 ux20.out.1 ux20.out.2).mono ?_
  rintro e wx1 ⟨rfl, hb⟩
  refine ⟨_, rfl, ?_⟩
  refine hK.out _ _ ⟨((hb.block _ (heap_lt' hHeld.1)).trans hHeld.1), ((hb.block _ (heap_lt' hHeld.2.1)).trans hHeld.2.1), (Aside0.mk (below_step hHeld.2.2.out hb))⟩ (fun hHeld => ?_)
  clear hK K
  refine norm_ (a' := ?_) ?_ ?_
  rotate_left
  · show Act.put _ (some 6) _ = _
    simp only [Act.put, List.setIfInBounds_toArray, List.set_cons_zero, List.set_cons_succ, i64_w, i32_w]
    rfl
  generalize Value.agg #[.int .u8 x.code, .int .u8 x.fail, .int .u16 x.addr, .int .u16 x.count, .int .u16 x.value, .int .u16 x.and_, .int .u16 x.or_, .int .u16 x.addr2, .int .u16 x.sub, .int .u16 x.status, .int .u16 x.events, .int .u16 x.messages, .slice Ax12 x.words.length cx12, .slice Ax13 x.bits.length cx13, .slice Ax14 x.data.length cx14, .slice Ax15 x.recs.length cx15, .int .u8 x.mei, .int .u8 x.kind, .int .u8 x.level, .int .u8 x.more, .int .u8 x.next, .slice Ax21 x.objects.length cx21] = g5
  refine one_ (i := 3) (N := some 8) (bm 43 15) rfl rfl (one_of HT_.out (by as_aux_lemma => kernel_rfl)) (by as_aux_lemma => decide) (fun K hK => ?_)
  refine goes_ Try.func26 (by as_aux_lemma => kernel_rfl) rfl #[.agg #[.int .u8 y.code, .int .u8 y.fail, .int .u16 y.addr, .int .u16 y.count, .int .u16 y.value, .int .u16 y.and_, .int .u16 y.or_, .int .u16 y.addr2, .int .u16 y.sub, .int .u16 y.status, .int .u16 y.events, .int .u16 y.messages, .slice Ay12 y.words.length cy12, .slice Ay13 y.bits.length cy13, .slice Ay14 y.data.length cy14, .slice Ay15 y.recs.length cy15, .int .u8 y.mei, .int .u8 y.kind, .int .u8 y.level, .int .u8 y.more, .int .u8 y.next, .slice Ay21 y.objects.length cy21]] (by rfl) rfl rfl (by simp only [List.map_toArray, List.map_cons, List.map_nil]; rfl) ?_
  with_reducible refine (plain_any y Ay12 cy12 Ay13 cy13 Ay14 cy14 Ay15 cy15 Ay21 cy21 _ uy0.out.1 uy0.out.2 uy1.out.1 uy1.out.2 uy16.out.1 uy16.out.2 uy17.out.1 uy17.out.2 uy18.out.1 uy18.out.2 uy19.out.1 uy19.out.2 uy20.out.1 uy20.out.2).mono ?_
  rintro e wy1 ⟨rfl, hb⟩
  refine ⟨_, rfl, ?_⟩
  refine hK.out _ _ ⟨((hb.block _ (heap_lt' hHeld.1)).trans hHeld.1), ((hb.block _ (heap_lt' hHeld.2.1)).trans hHeld.2.1), (Aside0.mk (below_step hHeld.2.2.out hb))⟩ (fun hHeld => ?_)
  clear hK K
  refine norm_ (a' := ?_) ?_ ?_
  rotate_left
  · show Act.put _ (some 8) _ = _
    simp only [Act.put, List.setIfInBounds_toArray, List.set_cons_zero, List.set_cons_succ, i64_w, i32_w]
    rfl
  generalize Value.agg #[.int .u8 y.code, .int .u8 y.fail, .int .u16 y.addr, .int .u16 y.count, .int .u16 y.value, .int .u16 y.and_, .int .u16 y.or_, .int .u16 y.addr2, .int .u16 y.sub, .int .u16 y.status, .int .u16 y.events, .int .u16 y.messages, .slice Ay12 y.words.length cy12, .slice Ay13 y.bits.length cy13, .slice Ay14 y.data.length cy14, .slice Ay15 y.recs.length cy15, .int .u8 y.mei, .int .u8 y.kind, .int .u8 y.level, .int .u8 y.more, .int .u8 y.next, .slice Ay21 y.objects.length cy21] = g7
  refine pure_ (i := 4) (N := some 9) (v := ?_) (a' := ?_) (bm 43 31) rfl rfl (any_of HT_.out (by as_aux_lemma => kernel_rfl)) (fun _ _ _ h => h) (Or.inl ⟨by rfl, ?_⟩) ?_ ?_
  rotate_left
  · intro w'
    go_simp
    with_reducible rfl
  rotate_left
  · simp only [Act.put, List.setIfInBounds_toArray, List.set_cons_zero, List.set_cons_succ, i64_w, i32_w]
    rfl
  generalize Value.agg #[.int .u16 x.code, .int .u16 x.fail, .int .u16 x.addr, .int .u16 x.count, .int .u16 x.value, .int .u16 x.and_, .int .u16 x.or_, .int .u16 x.addr2, .int .u16 x.sub, .int .u16 x.status, .int .u16 x.events, .int .u16 x.messages, .int .u16 (shB x.mei x.kind), .int .u16 (shB x.level x.more), .int .u16 x.next] = g6
  generalize Value.agg #[.int .u16 y.code, .int .u16 y.fail, .int .u16 y.addr, .int .u16 y.count, .int .u16 y.value, .int .u16 y.and_, .int .u16 y.or_, .int .u16 y.addr2, .int .u16 y.sub, .int .u16 y.status, .int .u16 y.events, .int .u16 y.messages, .int .u16 (shB y.mei y.kind), .int .u16 (shB y.level y.more), .int .u16 y.next] = g8
  refine pure_ (i := 5) (N := some 10) (v := ?_) (a' := ?_) (bm 43 63) rfl rfl (any_of HT_.out (by as_aux_lemma => kernel_rfl)) (fun _ _ _ h => h) (Or.inl ⟨by rfl, ?_⟩) ?_ ?_
  rotate_left
  · intro w'
    go_simp
    with_reducible rfl
  rotate_left
  · simp only [Act.put, List.setIfInBounds_toArray, List.set_cons_zero, List.set_cons_succ, i64_w, i32_w]
    rfl
  refine pure_ (i := 6) (N := some 11) (v := ?_) (a' := ?_) (bm 43 127) rfl rfl (any_of HT_.out (by as_aux_lemma => kernel_rfl)) (fun _ _ _ h => h) (Or.inl ⟨by rfl, ?_⟩) ?_ ?_
  rotate_left
  · intro w'
    go_simp
    with_reducible rfl
  rotate_left
  · simp only [Act.put, List.setIfInBounds_toArray, List.set_cons_zero, List.set_cons_succ, i64_w, i32_w]
    rfl
  refine pure_ (i := 8) (N := some 13) (v := ?_) (a' := ?_) (bm 43 383) rfl rfl (any_of HT_.out (by as_aux_lemma => kernel_rfl)) (fun _ _ _ h => h) (Or.inl ⟨by rfl, ?_⟩) ?_ ?_
  rotate_left
  · intro w'
    go_simp
    with_reducible rfl
  rotate_left
  · simp only [Act.put, List.setIfInBounds_toArray, List.set_cons_zero, List.set_cons_succ, i64_w, i32_w]
    rfl
  refine take_ (i := 7) (N := some 12) (v := ?_) (a' := ?_) (bm 43 511) rfl rfl (take_ofW HT_.out HW_.out (by as_aux_lemma => kernel_rfl)) (fun _ _ _ h => h) (Or.inl ⟨by rfl, ?_⟩) hHeld ?_ ?_
  rotate_left
  · rintro w' ⟨s0, s1, s2⟩
    have hq : w'.cell? ⟨w.heap.size, 12, none⟩ = some (.slice Ax12 x.words.length cx12) := cell_of_row w' _ 12 _ _ _ s0
    clear s0 s1 s2
    go_simp
    with_reducible rfl
  rotate_left
  · simp only [Act.put, List.setIfInBounds_toArray, List.set_cons_zero, List.set_cons_succ, i64_w, i32_w]
    rfl
  refine take_ (i := 9) (N := some 14) (v := ?_) (a' := ?_) (bm 43 1023) rfl rfl (take_ofW HT_.out HW_.out (by as_aux_lemma => kernel_rfl)) (fun _ _ _ h => h) (Or.inl ⟨by rfl, ?_⟩) hHeld ?_ ?_
  rotate_left
  · rintro w' ⟨s0, s1, s2⟩
    have hq : w'.cell? ⟨w.heap.size + 1, 12, none⟩ = some (.slice Ay12 y.words.length cy12) := cell_of_row w' _ 12 _ _ _ s1
    clear s0 s1 s2
    go_simp
    with_reducible rfl
  rotate_left
  · simp only [Act.put, List.setIfInBounds_toArray, List.set_cons_zero, List.set_cons_succ, i64_w, i32_w]
    rfl
  refine one_ (i := 10) (N := some 15) (bm 43 2047) rfl rfl (one_of HT_.out (by as_aux_lemma => kernel_rfl)) (by as_aux_lemma => decide) (fun K hK => ?_)
  refine goes_ Try.func27 (by as_aux_lemma => kernel_rfl) rfl #[.slice Ax12 x.words.length cx12, .slice Ay12 y.words.length cy12] (by rfl) rfl rfl (by simp only [List.map_toArray, List.map_cons, List.map_nil]; rfl) ?_
  with_reducible refine (slices_Equal_uint16_uint16.calls k1 _ _ x.words _ _ y.words true _ (Kd.C_below HRx12.out hHeld.2.2.out) hcx12 (Kd.C_below HRy12.out hHeld.2.2.out) hcy12 P1.out).mono ?_
  rintro e w2 ⟨rfl, ⟨nd1, rfl⟩⟩
  refine ⟨_, rfl, ?_⟩
  refine hK.out _ _ ⟨hHeld.1, hHeld.2.1, (Aside0.mk (pw_below_drewN hHeld.2.2.out _))⟩ (fun hHeld => ?_)
  clear hK K
  refine norm_ (a' := ?_) ?_ ?_
  rotate_left
  · show Act.put _ (some 15) _ = _
    simp only [Act.put, List.setIfInBounds_toArray, List.set_cons_zero, List.set_cons_succ, i64_w, i32_w]
    rfl
  refine pure_ (i := 11) (N := some 16) (v := ?_) (a' := ?_) (bm 43 4095) rfl rfl (any_of HT_.out (by as_aux_lemma => kernel_rfl)) (fun _ _ _ h => h) (Or.inl ⟨by rfl, ?_⟩) ?_ ?_
  rotate_left
  · intro w'
    go_simp
    with_reducible rfl
  rotate_left
  · simp only [Act.put, List.setIfInBounds_toArray, List.set_cons_zero, List.set_cons_succ, i64_w, i32_w]
    rfl
  refine pure_ (i := 12) (N := some 17) (v := ?_) (a' := ?_) (bm 43 8191) rfl rfl (any_of HT_.out (by as_aux_lemma => kernel_rfl)) (fun _ _ _ h => h) (Or.inl ⟨by rfl, ?_⟩) ?_ ?_
  rotate_left
  · intro w'
    go_simp
    with_reducible rfl
  rotate_left
  · simp only [Act.put, List.setIfInBounds_toArray, List.set_cons_zero, List.set_cons_succ, i64_w, i32_w]
    rfl
  refine pure_ (i := 13) (N := some 18) (v := ?_) (a' := ?_) (bm 43 16383) rfl rfl (any_of HT_.out (by as_aux_lemma => kernel_rfl)) (fun _ _ _ h => h) (Or.inl ⟨by rfl, ?_⟩) ?_ ?_
  rotate_left
  · intro w'
    go_simp
    with_reducible rfl
  rotate_left
  · simp only [Act.put, List.setIfInBounds_toArray, List.set_cons_zero, List.set_cons_succ, i64_w, i32_w]
    rfl
  refine pure_ (i := 15) (N := some 20) (v := ?_) (a' := ?_) (bm 43 49151) rfl rfl (any_of HT_.out (by as_aux_lemma => kernel_rfl)) (fun _ _ _ h => h) (Or.inl ⟨by rfl, ?_⟩) ?_ ?_
  rotate_left
  · intro w'
    go_simp
    with_reducible rfl
  rotate_left
  · simp only [Act.put, List.setIfInBounds_toArray, List.set_cons_zero, List.set_cons_succ, i64_w, i32_w]
    rfl
  refine take_ (i := 14) (N := some 19) (v := ?_) (a' := ?_) (bm 43 65535) rfl rfl (take_ofW HT_.out HW_.out (by as_aux_lemma => kernel_rfl)) (fun _ _ _ h => h) (Or.inl ⟨by rfl, ?_⟩) hHeld ?_ ?_
  rotate_left
  · rintro w' ⟨s0, s1, s2⟩
    have hq : w'.cell? ⟨w.heap.size, 13, none⟩ = some (.slice Ax13 x.bits.length cx13) := cell_of_row w' _ 13 _ _ _ s0
    clear s0 s1 s2
    go_simp
    with_reducible rfl
  rotate_left
  · simp only [Act.put, List.setIfInBounds_toArray, List.set_cons_zero, List.set_cons_succ, i64_w, i32_w]
    rfl
  refine take_ (i := 16) (N := some 21) (v := ?_) (a' := ?_) (bm 43 131071) rfl rfl (take_ofW HT_.out HW_.out (by as_aux_lemma => kernel_rfl)) (fun _ _ _ h => h) (Or.inl ⟨by rfl, ?_⟩) hHeld ?_ ?_
  rotate_left
  · rintro w' ⟨s0, s1, s2⟩
    have hq : w'.cell? ⟨w.heap.size + 1, 13, none⟩ = some (.slice Ay13 y.bits.length cy13) := cell_of_row w' _ 13 _ _ _ s1
    clear s0 s1 s2
    go_simp
    with_reducible rfl
  rotate_left
  · simp only [Act.put, List.setIfInBounds_toArray, List.set_cons_zero, List.set_cons_succ, i64_w, i32_w]
    rfl
  refine one_ (i := 17) (N := some 22) (bm 43 262143) rfl rfl (one_of HT_.out (by as_aux_lemma => kernel_rfl)) (by as_aux_lemma => decide) (fun K hK => ?_)
  refine goes_ Try.func28 (by as_aux_lemma => kernel_rfl) rfl #[.slice Ax13 x.bits.length cx13, .slice Ay13 y.bits.length cy13] (by rfl) rfl rfl (by simp only [List.map_toArray, List.map_cons, List.map_nil]; rfl) ?_
  with_reducible refine (slices_Equal_bool_bool.calls k2 _ _ x.bits _ _ y.bits false _ (Kd.C_below HRx13.out hHeld.2.2.out) hcx13 (Kd.C_below HRy13.out hHeld.2.2.out) hcy13 P2.out).mono ?_
  rintro e w3 ⟨rfl, ⟨nd2, rfl⟩⟩
  refine ⟨_, rfl, ?_⟩
  refine hK.out _ _ ⟨hHeld.1, hHeld.2.1, (Aside0.mk (pw_below_drewN hHeld.2.2.out _))⟩ (fun hHeld => ?_)
  clear hK K
  refine norm_ (a' := ?_) ?_ ?_
  rotate_left
  · show Act.put _ (some 22) _ = _
    simp only [Act.put, List.setIfInBounds_toArray, List.set_cons_zero, List.set_cons_succ, i64_w, i32_w]
    rfl
  refine pure_ (i := 18) (N := some 23) (v := ?_) (a' := ?_) (bm 43 524287) rfl rfl (any_of HT_.out (by as_aux_lemma => kernel_rfl)) (fun _ _ _ h => h) (Or.inl ⟨by rfl, ?_⟩) ?_ ?_
  rotate_left
  · intro w'
    go_simp
    with_reducible rfl
  rotate_left
  · simp only [Act.put, List.setIfInBounds_toArray, List.set_cons_zero, List.set_cons_succ, i64_w, i32_w]
    rfl
  refine pure_ (i := 19) (N := some 24) (v := ?_) (a' := ?_) (bm 43 1048575) rfl rfl (any_of HT_.out (by as_aux_lemma => kernel_rfl)) (fun _ _ _ h => h) (Or.inl ⟨by rfl, ?_⟩) ?_ ?_
  rotate_left
  · intro w'
    go_simp
    with_reducible rfl
  rotate_left
  · simp only [Act.put, List.setIfInBounds_toArray, List.set_cons_zero, List.set_cons_succ, i64_w, i32_w]
    rfl
  refine pure_ (i := 20) (N := some 25) (v := undef) (a' := ?_) (bm 43 2097151) rfl rfl (any_of HT_.out (by as_aux_lemma => kernel_rfl)) (fun _ _ _ h => h) (Or.inr ⟨by rfl, rfl⟩) ?_ ?_
  rotate_left
  · simp only [Act.put, List.setIfInBounds_toArray, List.set_cons_zero, List.set_cons_succ, i64_w, i32_w]
    rfl
  refine pure_ (i := 21) (N := some 26) (v := undef) (a' := ?_) (bm 43 4194303) rfl rfl (any_of HT_.out (by as_aux_lemma => kernel_rfl)) (fun _ _ _ h => h) (Or.inr ⟨by rfl, rfl⟩) ?_ ?_
  rotate_left
  · simp only [Act.put, List.setIfInBounds_toArray, List.set_cons_zero, List.set_cons_succ, i64_w, i32_w]
    rfl
  refine pure_ (i := 22) (N := some 27) (v := undef) (a' := ?_) (bm 43 8388607) rfl rfl (any_of HT_.out (by as_aux_lemma => kernel_rfl)) (fun _ _ _ h => h) (Or.inr ⟨by rfl, rfl⟩) ?_ ?_
  rotate_left
  · simp only [Act.put, List.setIfInBounds_toArray, List.set_cons_zero, List.set_cons_succ, i64_w, i32_w]
    rfl
  refine pure_ (i := 23) (N := some 28) (v := undef) (a' := ?_) (bm 43 16777215) rfl rfl (any_of HT_.out (by as_aux_lemma => kernel_rfl)) (fun _ _ _ h => h) (Or.inr ⟨by rfl, rfl⟩) ?_ ?_
  rotate_left
  · simp only [Act.put, List.setIfInBounds_toArray, List.set_cons_zero, List.set_cons_succ, i64_w, i32_w]
    rfl
  refine pure_ (i := 24) (N := some 29) (v := undef) (a' := ?_) (bm 43 33554431) rfl rfl (any_of HT_.out (by as_aux_lemma => kernel_rfl)) (fun _ _ _ h => h) (Or.inr ⟨by rfl, rfl⟩) ?_ ?_
  rotate_left
  · simp only [Act.put, List.setIfInBounds_toArray, List.set_cons_zero, List.set_cons_succ, i64_w, i32_w]
    rfl
  refine pure_ (i := 25) (N := some 30) (v := undef) (a' := ?_) (bm 43 67108863) rfl rfl (any_of HT_.out (by as_aux_lemma => kernel_rfl)) (fun _ _ _ h => h) (Or.inr ⟨by rfl, rfl⟩) ?_ ?_
  rotate_left
  · simp only [Act.put, List.setIfInBounds_toArray, List.set_cons_zero, List.set_cons_succ, i64_w, i32_w]
    rfl
  refine pure_ (i := 26) (N := some 31) (v := undef) (a' := ?_) (bm 43 134217727) rfl rfl (any_of HT_.out (by as_aux_lemma => kernel_rfl)) (fun _ _ _ h => h) (Or.inr ⟨by rfl, rfl⟩) ?_ ?_
  rotate_left
  · simp only [Act.put, List.setIfInBounds_toArray, List.set_cons_zero, List.set_cons_succ, i64_w, i32_w]
    rfl
  refine pure_ (i := 27) (N := some 32) (v := ?_) (a' := ?_) (bm 43 268435455) rfl rfl (any_of HT_.out (by as_aux_lemma => kernel_rfl)) (fun _ _ _ h => h) (Or.inl ⟨by rfl, ?_⟩) ?_ ?_
  rotate_left
  · intro w'
    go_simp
    with_reducible rfl
  rotate_left
  · simp only [Act.put, List.setIfInBounds_toArray, List.set_cons_zero, List.set_cons_succ, i64_w, i32_w]
    rfl
  refine pure_ (i := 28) (N := some 33) (v := ?_) (a' := ?_) (bm 43 536870911) rfl rfl (any_of HT_.out (by as_aux_lemma => kernel_rfl)) (fun _ _ _ h => h) (Or.inl ⟨by rfl, ?_⟩) ?_ ?_
  rotate_left
  · intro w'
    go_simp
    with_reducible rfl
  rotate_left
  · simp only [Act.put, List.setIfInBounds_toArray, List.set_cons_zero, List.set_cons_succ, i64_w, i32_w]
    rfl
  refine pure_ (i := 29) (N := some 34) (v := undef) (a' := ?_) (bm 43 1073741823) rfl rfl (any_of HT_.out (by as_aux_lemma => kernel_rfl)) (fun _ _ _ h => h) (Or.inr ⟨by rfl, rfl⟩) ?_ ?_
  rotate_left
  · simp only [Act.put, List.setIfInBounds_toArray, List.set_cons_zero, List.set_cons_succ, i64_w, i32_w]
    rfl
  refine pure_ (i := 30) (N := some 35) (v := undef) (a' := ?_) (bm 43 2147483647) rfl rfl (any_of HT_.out (by as_aux_lemma => kernel_rfl)) (fun _ _ _ h => h) (Or.inr ⟨by rfl, rfl⟩) ?_ ?_
  rotate_left
  · simp only [Act.put, List.setIfInBounds_toArray, List.set_cons_zero, List.set_cons_succ, i64_w, i32_w]
    rfl
  refine pure_ (i := 31) (N := some 36) (v := undef) (a' := ?_) (bm 43 4294967295) rfl rfl (any_of HT_.out (by as_aux_lemma => kernel_rfl)) (fun _ _ _ h => h) (Or.inr ⟨by rfl, rfl⟩) ?_ ?_
  rotate_left
  · simp only [Act.put, List.setIfInBounds_toArray, List.set_cons_zero, List.set_cons_succ, i64_w, i32_w]
    rfl
  refine pure_ (i := 32) (N := some 37) (v := undef) (a' := ?_) (bm 43 8589934591) rfl rfl (any_of HT_.out (by as_aux_lemma => kernel_rfl)) (fun _ _ _ h => h) (Or.inr ⟨by rfl, rfl⟩) ?_ ?_
  rotate_left
  · simp only [Act.put, List.setIfInBounds_toArray, List.set_cons_zero, List.set_cons_succ, i64_w, i32_w]
    rfl
  refine pure_ (i := 33) (N := some 38) (v := undef) (a' := ?_) (bm 43 17179869183) rfl rfl (any_of HT_.out (by as_aux_lemma => kernel_rfl)) (fun _ _ _ h => h) (Or.inr ⟨by rfl, rfl⟩) ?_ ?_
  rotate_left
  · simp only [Act.put, List.setIfInBounds_toArray, List.set_cons_zero, List.set_cons_succ, i64_w, i32_w]
    rfl
  refine pure_ (i := 34) (N := some 39) (v := ?_) (a' := ?_) (bm 43 34359738367) rfl rfl (any_of HT_.out (by as_aux_lemma => kernel_rfl)) (fun _ _ _ h => h) (Or.inl ⟨by rfl, ?_⟩) ?_ ?_
  rotate_left
  · intro w'
    go_simp
    with_reducible rfl
  rotate_left
  · simp only [Act.put, List.setIfInBounds_toArray, List.set_cons_zero, List.set_cons_succ, i64_w, i32_w]
    rfl
  refine pure_ (i := 35) (N := some 40) (v := ?_) (a' := ?_) (bm 43 68719476735) rfl rfl (any_of HT_.out (by as_aux_lemma => kernel_rfl)) (fun _ _ _ h => h) (Or.inl ⟨by rfl, ?_⟩) ?_ ?_
  rotate_left
  · intro w'
    go_simp
    with_reducible rfl
  rotate_left
  · simp only [Act.put, List.setIfInBounds_toArray, List.set_cons_zero, List.set_cons_succ, i64_w, i32_w]
    rfl
  refine pure_ (i := 36) (N := some 41) (v := undef) (a' := ?_) (bm 43 137438953471) rfl rfl (any_of HT_.out (by as_aux_lemma => kernel_rfl)) (fun _ _ _ h => h) (Or.inr ⟨by rfl, rfl⟩) ?_ ?_
  rotate_left
  · simp only [Act.put, List.setIfInBounds_toArray, List.set_cons_zero, List.set_cons_succ, i64_w, i32_w]
    rfl
  refine pure_ (i := 37) (N := some 42) (v := undef) (a' := ?_) (bm 43 274877906943) rfl rfl (any_of HT_.out (by as_aux_lemma => kernel_rfl)) (fun _ _ _ h => h) (Or.inr ⟨by rfl, rfl⟩) ?_ ?_
  rotate_left
  · simp only [Act.put, List.setIfInBounds_toArray, List.set_cons_zero, List.set_cons_succ, i64_w, i32_w]
    rfl
  refine pure_ (i := 38) (N := some 43) (v := undef) (a' := ?_) (bm 43 549755813887) rfl rfl (any_of HT_.out (by as_aux_lemma => kernel_rfl)) (fun _ _ _ h => h) (Or.inr ⟨by rfl, rfl⟩) ?_ ?_
  rotate_left
  · simp only [Act.put, List.setIfInBounds_toArray, List.set_cons_zero, List.set_cons_succ, i64_w, i32_w]
    rfl
  refine pure_ (i := 39) (N := some 44) (v := undef) (a' := ?_) (bm 43 1099511627775) rfl rfl (any_of HT_.out (by as_aux_lemma => kernel_rfl)) (fun _ _ _ h => h) (Or.inr ⟨by rfl, rfl⟩) ?_ ?_
  rotate_left
  · simp only [Act.put, List.setIfInBounds_toArray, List.set_cons_zero, List.set_cons_succ, i64_w, i32_w]
    rfl
  refine pure_ (i := 40) (N := some 45) (v := undef) (a' := ?_) (bm 43 2199023255551) rfl rfl (any_of HT_.out (by as_aux_lemma => kernel_rfl)) (fun _ _ _ h => h) (Or.inr ⟨by rfl, rfl⟩) ?_ ?_
  rotate_left
  · simp only [Act.put, List.setIfInBounds_toArray, List.set_cons_zero, List.set_cons_succ, i64_w, i32_w]
    rfl
  refine pure_ (i := 41) (N := some 46) (v := ?_) (a' := ?_) (bm 43 4398046511103) rfl rfl (any_of HT_.out (by as_aux_lemma => kernel_rfl)) (fun _ _ _ h => h) (Or.inl ⟨by rfl, ?_⟩) ?_ ?_
  rotate_left
  · intro w'
    go_simp
    with_reducible rfl
  rotate_left
  · simp only [Act.put, List.setIfInBounds_toArray, List.set_cons_zero, List.set_cons_succ, i64_w, i32_w]
    rfl
  refine pure_ (i := 42) (N := some 4) (v := ?_) (a' := ?_) (bm 43 8796093022207) rfl rfl (any_of HT_.out (by as_aux_lemma => kernel_rfl)) (fun _ _ _ h => h) (Or.inl ⟨by rfl, ?_⟩) ?_ ?_
  rotate_left
  · intro w'
    go_simp
    with_reducible rfl
  rotate_left
  · simp only [Act.put, List.setIfInBounds_toArray, List.set_cons_zero, List.set_cons_succ, i64_w, i32_w]
    rfl
  refine done_ (done_of HT_.out (by as_aux_lemma => kernel_rfl)) ?_

  go_wp2
  go_ret
  exact ⟨rfl, hHeld.2.2.out⟩

set_option maxHeartbeats 8000000 in
set_option maxRecDepth 100000 in
theorem same_3 (x y : Msg) (Ax12 : Option Addr) (cx12 : Nat) (Ax13 : Option Addr) (cx13 : Nat) (Ax14 : Option Addr) (cx14 : Nat) (Ax15 : Option Addr) (cx15 : Nat) (Ax21 : Option Addr) (cx21 : Nat) (Ay12 : Option Addr) (cy12 : Nat) (Ay13 : Option Addr) (cy13 : Nat) (Ay14 : Option Addr) (cy14 : Nat) (Ay15 : Option Addr) (cy15 : Nat) (Ay21 : Option Addr) (cy21 : Nat) (w : World) (hrx12 : Kd.C (Kd.int .u16) w Ax12 x.words.length x.words) (hcx12 : x.words.length ≤ cx12) (hrx13 : Kd.C Kd.bool w Ax13 x.bits.length x.bits) (hcx13 : x.bits.length ≤ cx13) (hrx14 : Kd.C (Kd.int .u8) w Ax14 x.data.length x.data) (hcx14 : x.data.length ≤ cx14) (hrx15 : Kd.C k50 w Ax15 x.recs.length x.recs) (hcx15 : x.recs.length ≤ cx15) (hrx21 : Kd.C k52 w Ax21 x.objects.length x.objects) (hcx21 : x.objects.length ≤ cx21) (hry12 : Kd.C (Kd.int .u16) w Ay12 y.words.length y.words) (hcy12 : y.words.length ≤ cy12) (hry13 : Kd.C Kd.bool w Ay13 y.bits.length y.bits) (hcy13 : y.bits.length ≤ cy13) (hry14 : Kd.C (Kd.int .u8) w Ay14 y.data.length y.data) (hcy14 : y.data.length ≤ cy14) (hry15 : Kd.C k50 w Ay15 y.recs.length y.recs) (hcy15 : y.recs.length ≤ cy15) (hry21 : Kd.C k52 w Ay21 y.objects.length y.objects) (hcy21 : y.objects.length ≤ cy21) (vx0 : 0 ≤ x.code ∧ x.code < 256) (vx1 : 0 ≤ x.fail ∧ x.fail < 256) (vx16 : 0 ≤ x.mei ∧ x.mei < 256) (vx17 : 0 ≤ x.kind ∧ x.kind < 256) (vx18 : 0 ≤ x.level ∧ x.level < 256) (vx19 : 0 ≤ x.more ∧ x.more < 256) (vx20 : 0 ≤ x.next ∧ x.next < 256) (vy0 : 0 ≤ y.code ∧ y.code < 256) (vy1 : 0 ≤ y.fail ∧ y.fail < 256) (vy16 : 0 ≤ y.mei ∧ y.mei < 256) (vy17 : 0 ≤ y.kind ∧ y.kind < 256) (vy18 : 0 ≤ y.level ∧ y.level < 256) (vy19 : 0 ≤ y.more ∧ y.more < 256) (vy20 : 0 ≤ y.next ∧ y.next < 256) (ox_ : ∀ q ∈ x.objects, q.f1.all u8B = true) (oy_ : ∀ q ∈ y.objects, q.f1.all u8B = true) (b0 : eqL [x.code, x.fail, x.addr, x.count, x.value, x.and_, x.or_, x.addr2, x.sub, x.status, x.events, x.messages, shB x.mei x.kind, shB x.level x.more, x.next] [y.code, y.fail, y.addr, y.count, y.value, y.and_, y.or_, y.addr2, y.sub, y.status, y.events, y.messages, shB y.mei y.kind, shB y.level y.more, y.next] = true) (k1 : Nat) (p1 : slices_Equal_uint16_uint16.f k1 x.words y.words = some true) (k2 : Nat) (p2 : slices_Equal_bool_bool.f k2 x.bits y.bits = some true) (b3 : ((strOfNums x.data).toList == (strOfNums y.data).toList) = false) :
    Calls Try.prog 24 #[.agg #[.int .u8 x.code, .int .u8 x.fail, .int .u16 x.addr, .int .u16 x.count, .int .u16 x.value, .int .u16 x.and_, .int .u16 x.or_, .int .u16 x.addr2, .int .u16 x.sub, .int .u16 x.status, .int .u16 x.events, .int .u16 x.messages, .slice Ax12 x.words.length cx12, .slice Ax13 x.bits.length cx13, .slice Ax14 x.data.length cx14, .slice Ax15 x.recs.length cx15, .int .u8 x.mei, .int .u8 x.kind, .int .u8 x.level, .int .u8 x.more, .int .u8 x.next, .slice Ax21 x.objects.length cx21], .agg #[.int .u8 y.code, .int .u8 y.fail, .int .u16 y.addr, .int .u16 y.count, .int .u16 y.value, .int .u16 y.and_, .int .u16 y.or_, .int .u16 y.addr2, .int .u16 y.sub, .int .u16 y.status, .int .u16 y.events, .int .u16 y.messages, .slice Ay12 y.words.length cy12, .slice Ay13 y.bits.length cy13, .slice Ay14 y.data.length cy14, .slice Ay15 y.recs.length cy15, .int .u8 y.mei, .int .u8 y.kind, .int .u8 y.level, .int .u8 y.more, .int .u8 y.next, .slice Ay21 y.objects.length cy21]] w fun e w' => e = .returned (.bool false) ∧ Below w.heap.size w w' := by
  have HRx12 := Aside0.mk hrx12
  have HRx13 := Aside0.mk hrx13
  have HRx14 := Aside0.mk hrx14
  have HRx15 := Aside0.mk hrx15
  have HRx21 := Aside0.mk hrx21
  have HRy12 := Aside0.mk hry12
  have HRy13 := Aside0.mk hry13
  have HRy14 := Aside0.mk hry14
  have HRy15 := Aside0.mk hry15
  have HRy21 := Aside0.mk hry21
  have ux0 := Aside0.mk vx0
  have ux1 := Aside0.mk vx1
  have ux16 := Aside0.mk vx16
  have ux17 := Aside0.mk vx17
  have ux18 := Aside0.mk vx18
  have ux19 := Aside0.mk vx19
  have ux20 := Aside0.mk vx20
  have uy0 := Aside0.mk vy0
  have uy1 := Aside0.mk vy1
  have uy16 := Aside0.mk vy16
  have uy17 := Aside0.mk vy17
  have uy18 := Aside0.mk vy18
  have uy19 := Aside0.mk vy19
  have uy20 := Aside0.mk vy20
  have ox := Aside0.mk ox_
  have oy := Aside0.mk oy_
  have P1 := Aside0.mk p1
  have P2 := Aside0.mk p2
  clear hrx12 hrx13 hrx14 hrx15 hrx21 hry12 hry13 hry14 hry15 hry21 vx0 vx1 vx16 vx17 vx18 vx19 vx20 vy0 vy1 vy16 vy17 vy18 vy19 vy20 ox_ oy_ p1 p2
  have hu1 := Try.underlying30
  go_enter Try.func24, Try.ntmps24
  go_wp2
  generalize Value.agg #[.int .u8 x.code, .int .u8 x.fail, .int .u16 x.addr, .int .u16 x.count, .int .u16 x.value, .int .u16 x.and_, .int .u16 x.or_, .int .u16 x.addr2, .int .u16 x.sub, .int .u16 x.status, .int .u16 x.events, .int .u16 x.messages, .slice Ax12 x.words.length cx12, .slice Ax13 x.bits.length cx13, .slice Ax14 x.data.length cx14, .slice Ax15 x.recs.length cx15, .int .u8 x.mei, .int .u8 x.kind, .int .u8 x.level, .int .u8 x.more, .int .u8 x.next, .slice Ax21 x.objects.length cx21] = g0
  generalize Value.agg #[.int .u8 y.code, .int .u8 y.fail, .int .u16 y.addr, .int .u16 y.count, .int .u16 y.value, .int .u16 y.and_, .int .u16 y.or_, .int .u16 y.addr2, .int .u16 y.sub, .int .u16 y.status, .int .u16 y.events, .int .u16 y.messages, .slice Ay12 y.words.length cy12, .slice Ay13 y.bits.length cy13, .slice Ay14 y.data.length cy14, .slice Ay15 y.recs.length cy15, .int .u8 y.mei, .int .u8 y.kind, .int .u8 y.level, .int .u8 y.more, .int .u8 y.next, .slice Ay21 y.objects.length cy21] = g1
  refine start_ (n := 43) (S := fun w' => w'.heap[w.heap.size]? = some (.cells (#[.int .u8 x.code, .int .u8 x.fail, .int .u16 x.addr, .int .u16 x.count, .int .u16 x.value, .int .u16 x.and_, .int .u16 x.or_, .int .u16 x.addr2, .int .u16 x.sub, .int .u16 x.status, .int .u16 x.events, .int .u16 x.messages, .slice Ax12 x.words.length cx12, .slice Ax13 x.bits.length cx13, .slice Ax14 x.data.length cx14, .slice Ax15 x.recs.length cx15, .int .u8 x.mei, .int .u8 x.kind, .int .u8 x.level, .int .u8 x.more, .int .u8 x.next, .slice Ax21 x.objects.length cx21] : Array Value) 30 (0, 0)) ∧ w'.heap[w.heap.size + 1]? = some (.cells (#[.int .u8 y.code, .int .u8 y.fail, .int .u16 y.addr, .int .u16 y.count, .int .u16 y.value, .int .u16 y.and_, .int .u16 y.or_, .int .u16 y.addr2, .int .u16 y.sub, .int .u16 y.status, .int .u16 y.events, .int .u16 y.messages, .slice Ay12 y.words.length cy12, .slice Ay13 y.bits.length cy13, .slice Ay14 y.data.length cy14, .slice Ay15 y.recs.length cy15, .int .u8 y.mei, .int .u8 y.kind, .int .u8 y.level, .int .u8 y.more, .int .u8 y.next, .slice Ay21 y.objects.length cy21] : Array Value) 30 (0, 0)) ∧ Aside0 (Below w.heap.size w w')) (ds := []) (bm 43 0) (by as_aux_lemma => kernel_rfl) rfl (by as_aux_lemma => kernel_rfl) ⟨(heap_x _ _ _ _), (heap_y _ _ _ _), (Aside0.mk (by repeat (first | exact Below.refl _ _ | (with_reducible first | apply below_alloc | apply pw_below_drewN | apply below_drew1))))⟩ (fun hHeld => ?_)
  generalize World.drew _ = wd at hHeld ⊢
  refine with_tabW same.tab1 same.bits1 (fun HT_ HW_ => ?_)
  refine take_ (i := 0) (N := some 5) (v := ?_) (a' := ?_) (bm 43 1) rfl rfl (take_ofW HT_.out HW_.out (by as_aux_lemma => kernel_rfl)) (fun _ _ _ h => h) (Or.inl ⟨by rfl, ?_⟩) hHeld ?_ ?_
  rotate_left
  · rintro w' ⟨s0, s1, s2⟩
    refine exec_load_row 30 (.tmp 2) ?ha_x (w.heap.size) ?hb_x _ _ _ _ s0 Try.underlying30 ?hc_x ?hd_x
    case ha_x => rfl
    case hb_x => rfl
    case hc_x => rfl
    exact (by as_aux_lemma => kernel_rfl)
  rotate_left
  · simp only [Act.put, List.setIfInBounds_toArray, List.set_cons_zero, List.set_cons_succ, i64_w, i32_w]
    rfl
  refine take_ (i := 2) (N := some 7) (v := ?_) (a' := ?_) (bm 43 5) rfl rfl (take_ofW HT_.out HW_.out (by as_aux_lemma => kernel_rfl)) (fun _ _ _ h => h) (Or.inl ⟨by rfl, ?_⟩) hHeld ?_ ?_
  rotate_left
  · rintro w' ⟨s0, s1, s2⟩
    refine exec_load_row 30 (.tmp 3) ?ha_y (w.heap.size + 1) ?hb_y _ _ _ _ s1 Try.underlying30 ?hc_y ?hd_y
    case ha_y => rfl
    case hb_y => rfl
    case hc_y => rfl
    exact (by as_aux_lemma => kernel_rfl)
  rotate_left
  · simp only [Act.put, List.setIfInBounds_toArray, List.set_cons_zero, List.set_cons_succ, i64_w, i32_w]
    rfl
  refine one_ (i := 1) (N := some 6) (bm 43 7) rfl rfl (one_of HT_.out (by as_aux_lemma => kernel_rfl)) (by as_aux_lemma => decide) (fun K hK => ?_)
  refine goes_ Try.func26 (by as_aux_lemma => kernel_rfl) rfl #[.agg #[.int .u8 x.code, .int .u8 x.fail, .int .u16 x.addr, .int .u16 x.count, .int .u16 x.value, .int .u16 x.and_, .int .u16 x.or_, .int .u16 x.addr2, .int .u16 x.sub, .int .u16 x.status, .int .u16 x.events, .int .u16 x.messages, .slice Ax12 x.words.length cx12, .slice Ax13 x.bits.length cx13, .slice Ax14 x.data.length cx14, .slice Ax15 x.recs.length cx15, .int .u8 x.mei, .int .u8 x.kind, .int .u8 x.level, .int .u8 x.more, .int .u8 x.next, .slice Ax21 x.objects.length cx21]] (by rfl) rfl rfl (by simp only [List.map_toArray, List.map_cons, List.map_nil]; rfl) ?_
  with_reducible refine (plain_any x Ax12 cx12 Ax13 cx13 Ax14 cx14 Ax15 cx15 Ax21 cx21 _ ux0.out.1 ux0.out.2 ux1.out.1 ux1.out.2 ux16.out.1 ux16.out.2 ux17.out.1 ux17.out.2 ux18.out.1 ux18.out.2 ux19.out.1 ux19.out.2 ux20.out.1 ux20.out.2).mono ?_
  rintro e wx1 ⟨rfl, hb⟩
  refine ⟨_, rfl, ?_⟩
  refine hK.out _ _ ⟨((hb.block _ (heap_lt' hHeld.1)).trans hHeld.1), ((hb.block _ (heap_lt' hHeld.2.1)).trans hHeld.2.1), (Aside0.mk (below_step hHeld.2.2.out hb))⟩ (fun hHeld => ?_)
  clear hK K
  refine norm_ (a' := ?_) ?_ ?_
  rotate_left
  · show Act.put _ (some 6) _ = _
    simp only [Act.put, List.setIfInBounds_toArray, List.set_cons_zero, List.set_cons_succ, i64_w, i32_w]
    rfl
  generalize Value.agg #[.int .u8 x.code, .int .u8 x.fail, .int .u16 x.addr, .int .u16 x.count, .int .u16 x.value, .int .u16 x.and_, .int .u16 x.or_, .int .u16 x.addr2, .int .u16 x.sub, .int .u16 x.status, .int .u16 x.events, .int .u16 x.messages, .slice Ax12 x.words.length cx12, .slice Ax13 x.bits.length cx13, .slice Ax14 x.data.length cx14, .slice Ax15 x.recs.length cx15, .int .u8 x.mei, .int .u8 x.kind, .int .u8 x.level, .int .u8 x.more, .int .u8 x.next, .slice Ax21 x.objects.length cx21] = g5
  refine one_ (i := 3) (N := some 8) (bm 43 15) rfl rfl (one_of HT_.out (by as_aux_lemma => kernel_rfl)) (by as_aux_lemma => decide) (fun K hK => ?_)
  refine goes_ Try.func26 (by as_aux_lemma => kernel_rfl) rfl #[.agg #[.int .u8 y.code, .int .u8 y.fail, .int .u16 y.addr, .int .u16 y.count, .int .u16 y.value, .int .u16 y.and_, .int .u16 y.or_, .int .u16 y.addr2, .int .u16 y.sub, .int .u16 y.status, .int .u16 y.events, .int .u16 y.messages, .slice Ay12 y.words.length cy12, .slice Ay13 y.bits.length cy13, .slice Ay14 y.data.length cy14, .slice Ay15 y.recs.length cy15, .int .u8 y.mei, .int .u8 y.kind, .int .u8 y.level, .int .u8 y.more, .int .u8 y.next, .slice Ay21 y.objects.length cy21]] (by rfl) rfl rfl (by simp only [List.map_toArray, List.map_cons, List.map_nil]; rfl) ?_
  with_reducible refine (plain_any y Ay12 cy12 Ay13 cy13 Ay14 cy14 Ay15 cy15 Ay21 cy21 _ uy0.out.1 uy0.out.2 uy1.out.1 uy1.out.2 uy16.out.1 uy16.out.2 uy17.out.1 uy17.out.2 uy18.out.1 uy18.out.2 uy19.out.1 uy19.out.2 uy20.out.1 uy20.out.2).mono ?_
  rintro e wy1 ⟨rfl, hb⟩
  refine ⟨_, rfl, ?_⟩
  refine hK.out _ _ ⟨((hb.block _ (heap_lt' hHeld.1)).trans hHeld.1), ((hb.block _ (heap_lt' hHeld.2.1)).trans hHeld.2.1), (Aside0.mk (below_step hHeld.2.2.out hb))⟩ (fun hHeld => ?_)
  clear hK K
  refine norm_ (a' := ?_) ?_ ?_
  rotate_left
  · show Act.put _ (some 8) _ = _
    simp only [Act.put, List.setIfInBounds_toArray, List.set_cons_zero, List.set_cons_succ, i64_w, i32_w]
    rfl
  generalize Value.agg #[.int .u8 y.code, .int .u8 y.fail, .int .u16 y.addr, .int .u16 y.count, .int .u16 y.value, .int .u16 y.and_, .int .u16 y.or_, .int .u16 y.addr2, .int .u16 y.sub, .int .u16 y.status, .int .u16 y.events, .int .u16 y.messages, .slice Ay12 y.words.length cy12, .slice Ay13 y.bits.length cy13, .slice Ay14 y.data.length cy14, .slice Ay15 y.recs.length cy15, .int .u8 y.mei, .int .u8 y.kind, .int .u8 y.level, .int .u8 y.more, .int .u8 y.next, .slice Ay21 y.objects.length cy21] = g7
  refine pure_ (i := 4) (N := some 9) (v := ?_) (a' := ?_) (bm 43 31) rfl rfl (any_of HT_.out (by as_aux_lemma => kernel_rfl)) (fun _ _ _ h => h) (Or.inl ⟨by rfl, ?_⟩) ?_ ?_
  rotate_left
  · intro w'
    go_simp
    with_reducible rfl
  rotate_left
  · simp only [Act.put, List.setIfInBounds_toArray, List.set_cons_zero, List.set_cons_succ, i64_w, i32_w]
    rfl
  generalize Value.agg #[.int .u16 x.code, .int .u16 x.fail, .int .u16 x.addr, .int .u16 x.count, .int .u16 x.value, .int .u16 x.and_, .int .u16 x.or_, .int .u16 x.addr2, .int .u16 x.sub, .int .u16 x.status, .int .u16 x.events, .int .u16 x.messages, .int .u16 (shB x.mei x.kind), .int .u16 (shB x.level x.more), .int .u16 x.next] = g6
  generalize Value.agg #[.int .u16 y.code, .int .u16 y.fail, .int .u16 y.addr, .int .u16 y.count, .int .u16 y.value, .int .u16 y.and_, .int .u16 y.or_, .int .u16 y.addr2, .int .u16 y.sub, .int .u16 y.status, .int .u16 y.events, .int .u16 y.messages, .int .u16 (shB y.mei y.kind), .int .u16 (shB y.level y.more), .int .u16 y.next] = g8
  refine pure_ (i := 5) (N := some 10) (v := ?_) (a' := ?_) (bm 43 63) rfl rfl (any_of HT_.out (by as_aux_lemma => kernel_rfl)) (fun _ _ _ h => h) (Or.inl ⟨by rfl, ?_⟩) ?_ ?_
  rotate_left
  · intro w'
    go_simp
    with_reducible rfl
  rotate_left
  · simp only [Act.put, List.setIfInBounds_toArray, List.set_cons_zero, List.set_cons_succ, i64_w, i32_w]
    rfl
  refine pure_ (i := 6) (N := some 11) (v := ?_) (a' := ?_) (bm 43 127) rfl rfl (any_of HT_.out (by as_aux_lemma => kernel_rfl)) (fun _ _ _ h => h) (Or.inl ⟨by rfl, ?_⟩) ?_ ?_
  rotate_left
  · intro w'
    go_simp
    with_reducible rfl
  rotate_left
  · simp only [Act.put, List.setIfInBounds_toArray, List.set_cons_zero, List.set_cons_succ, i64_w, i32_w]
    rfl
  refine pure_ (i := 8) (N := some 13) (v := ?_) (a' := ?_) (bm 43 383) rfl rfl (any_of HT_.out (by as_aux_lemma => kernel_rfl)) (fun _ _ _ h => h) (Or.inl ⟨by rfl, ?_⟩) ?_ ?_
  rotate_left
  · intro w'
    go_simp
    with_reducible rfl
  rotate_left
  · simp only [Act.put, List.setIfInBounds_toArray, List.set_cons_zero, List.set_cons_succ, i64_w, i32_w]
    rfl
  refine take_ (i := 7) (N := some 12) (v := ?_) (a' := ?_) (bm 43 511) rfl rfl (take_ofW HT_.out HW_.out (by as_aux_lemma => kernel_rfl)) (fun _ _ _ h => h) (Or.inl ⟨by rfl, ?_⟩) hHeld ?_ ?_
  rotate_left
  · rintro w' ⟨s0, s1, s2⟩
    have hq : w'.cell? ⟨w.heap.size, 12, none⟩ = some (.slice Ax12 x.words.length cx12) := cell_of_row w' _ 12 _ _ _ s0
    clear s0 s1 s2
    go_simp
    with_reducible rfl
  rotate_left
  · simp only [Act.put, List.setIfInBounds_toArray, List.set_cons_zero, List.set_cons_succ, i64_w, i32_w]
    rfl
  refine take_ (i := 9) (N := some 14) (v := ?_) (a' := ?_) (bm 43 1023) rfl rfl (take_ofW HT_.out HW_.out (by as_aux_lemma => kernel_rfl)) (fun _ _ _ h => h) (Or.inl ⟨by rfl, ?_⟩) hHeld ?_ ?_
  rotate_left
  · rintro w' ⟨s0, s1, s2⟩
    have hq : w'.cell? ⟨w.heap.size + 1, 12, none⟩ = some (.slice Ay12 y.words.length cy12) := cell_of_row w' _ 12 _ _ _ s1
    clear s0 s1 s2
    go_simp
    with_reducible rfl
  rotate_left
  · simp only [Act.put, List.setIfInBounds_toArray, List.set_cons_zero, List.set_cons_succ, i64_w, i32_w]
    rfl
  refine one_ (i := 10) (N := some 15) (bm 43 2047) rfl rfl (one_of HT_.out (by as_aux_lemma => kernel_rfl)) (by as_aux_lemma => decide) (fun K hK => ?_)
  refine goes_ Try.func27 (by as_aux_lemma => kernel_rfl) rfl #[.slice Ax12 x.words.length cx12, .slice Ay12 y.words.length cy12] (by rfl) rfl rfl (by simp only [List.map_toArray, List.map_cons, List.map_nil]; rfl) ?_
  with_reducible refine (slices_Equal_uint16_uint16.calls k1 _ _ x.words _ _ y.words true _ (Kd.C_below HRx12.out hHeld.2.2.out) hcx12 (Kd.C_below HRy12.out hHeld.2.2.out) hcy12 P1.out).mono ?_
  rintro e w2 ⟨rfl, ⟨nd1, rfl⟩⟩
  refine ⟨_, rfl, ?_⟩
  refine hK.out _ _ ⟨hHeld.1, hHeld.2.1, (Aside0.mk (pw_below_drewN hHeld.2.2.out _))⟩ (fun hHeld => ?_)
  clear hK K
  refine norm_ (a' := ?_) ?_ ?_
  rotate_left
  · show Act.put _ (some 15) _ = _
    simp only [Act.put, List.setIfInBounds_toArray, List.set_cons_zero, List.set_cons_succ, i64_w, i32_w]
    rfl
  refine pure_ (i := 11) (N := some 16) (v := ?_) (a' := ?_) (bm 43 4095) rfl rfl (any_of HT_.out (by as_aux_lemma => kernel_rfl)) (fun _ _ _ h => h) (Or.inl ⟨by rfl, ?_⟩) ?_ ?_
  rotate_left
  · intro w'
    go_simp
    with_reducible rfl
  rotate_left
  · simp only [Act.put, List.setIfInBounds_toArray, List.set_cons_zero, List.set_cons_succ, i64_w, i32_w]
    rfl
  refine pure_ (i := 12) (N := some 17) (v := ?_) (a' := ?_) (bm 43 8191) rfl rfl (any_of HT_.out (by as_aux_lemma => kernel_rfl)) (fun _ _ _ h => h) (Or.inl ⟨by rfl, ?_⟩) ?_ ?_
  rotate_left
  · intro w'
    go_simp
    with_reducible rfl
  rotate_left
  · simp only [Act.put, List.setIfInBounds_toArray, List.set_cons_zero, List.set_cons_succ, i64_w, i32_w]
    rfl
  refine pure_ (i := 13) (N := some 18) (v := ?_) (a' := ?_) (bm 43 16383) rfl rfl (any_of HT_.out (by as_aux_lemma => kernel_rfl)) (fun _ _ _ h => h) (Or.inl ⟨by rfl, ?_⟩) ?_ ?_
  rotate_left
  · intro w'
    go_simp
    with_reducible rfl
  rotate_left
  · simp only [Act.put, List.setIfInBounds_toArray, List.set_cons_zero, List.set_cons_succ, i64_w, i32_w]
    rfl
  refine pure_ (i := 15) (N := some 20) (v := ?_) (a' := ?_) (bm 43 49151) rfl rfl (any_of HT_.out (by as_aux_lemma => kernel_rfl)) (fun _ _ _ h => h) (Or.inl ⟨by rfl, ?_⟩) ?_ ?_
  rotate_left
  · intro w'
    go_simp
    with_reducible rfl
  rotate_left
  · simp only [Act.put, List.setIfInBounds_toArray, List.set_cons_zero, List.set_cons_succ, i64_w, i32_w]
    rfl
  refine take_ (i := 14) (N := some 19) (v := ?_) (a' := ?_) (bm 43 65535) rfl rfl (take_ofW HT_.out HW_.out (by as_aux_lemma => kernel_rfl)) (fun _ _ _ h => h) (Or.inl ⟨by rfl, ?_⟩) hHeld ?_ ?_
  rotate_left
  · rintro w' ⟨s0, s1, s2⟩
    have hq : w'.cell? ⟨w.heap.size, 13, none⟩ = some (.slice Ax13 x.bits.length cx13) := cell_of_row w' _ 13 _ _ _ s0
    clear s0 s1 s2
    go_simp
    with_reducible rfl
  rotate_left
  · simp only [Act.put, List.setIfInBounds_toArray, List.set_cons_zero, List.set_cons_succ, i64_w, i32_w]
    rfl
  refine take_ (i := 16) (N := some 21) (v := ?_) (a' := ?_) (bm 43 131071) rfl rfl (take_ofW HT_.out HW_.out (by as_aux_lemma => kernel_rfl)) (fun _ _ _ h => h) (Or.inl ⟨by rfl, ?_⟩) hHeld ?_ ?_
  rotate_left
  · rintro w' ⟨s0, s1, s2⟩
    have hq : w'.cell? ⟨w.heap.size + 1, 13, none⟩ = some (.slice Ay13 y.bits.length cy13) := cell_of_row w' _ 13 _ _ _ s1
    clear s0 s1 s2
    go_simp
    with_reducible rfl
  rotate_left
  · simp only [Act.put, List.setIfInBounds_toArray, List.set_cons_zero, List.set_cons_succ, i64_w, i32_w]
    rfl
  refine one_ (i := 17) (N := some 22) (bm 43 262143) rfl rfl (one_of HT_.out (by as_aux_lemma => kernel_rfl)) (by as_aux_lemma => decide) (fun K hK => ?_)
  refine goes_ Try.func28 (by as_aux_lemma => kernel_rfl) rfl #[.slice Ax13 x.bits.length cx13, .slice Ay13 y.bits.length cy13] (by rfl) rfl rfl (by simp only [List.map_toArray, List.map_cons, List.map_nil]; rfl) ?_
  with_reducible refine (slices_Equal_bool_bool.calls k2 _ _ x.bits _ _ y.bits true _ (Kd.C_below HRx13.out hHeld.2.2.out) hcx13 (Kd.C_below HRy13.out hHeld.2.2.out) hcy13 P2.out).mono ?_
  rintro e w3 ⟨rfl, ⟨nd2, rfl⟩⟩
  refine ⟨_, rfl, ?_⟩
  refine hK.out _ _ ⟨hHeld.1, hHeld.2.1, (Aside0.mk (pw_below_drewN hHeld.2.2.out _))⟩ (fun hHeld => ?_)
  clear hK K
  refine norm_ (a' := ?_) ?_ ?_
  rotate_left
  · show Act.put _ (some 22) _ = _
    simp only [Act.put, List.setIfInBounds_toArray, List.set_cons_zero, List.set_cons_succ, i64_w, i32_w]
    rfl
  refine pure_ (i := 18) (N := some 23) (v := ?_) (a' := ?_) (bm 43 524287) rfl rfl (any_of HT_.out (by as_aux_lemma => kernel_rfl)) (fun _ _ _ h => h) (Or.inl ⟨by rfl, ?_⟩) ?_ ?_
  rotate_left
  · intro w'
    go_simp
    with_reducible rfl
  rotate_left
  · simp only [Act.put, List.setIfInBounds_toArray, List.set_cons_zero, List.set_cons_succ, i64_w, i32_w]
    rfl
  refine pure_ (i := 19) (N := some 24) (v := ?_) (a' := ?_) (bm 43 1048575) rfl rfl (any_of HT_.out (by as_aux_lemma => kernel_rfl)) (fun _ _ _ h => h) (Or.inl ⟨by rfl, ?_⟩) ?_ ?_
  rotate_left
  · intro w'
    go_simp
    with_reducible rfl
  rotate_left
  · simp only [Act.put, List.setIfInBounds_toArray, List.set_cons_zero, List.set_cons_succ, i64_w, i32_w]
    rfl
  refine pure_ (i := 20) (N := some 25) (v := ?_) (a' := ?_) (bm 43 2097151) rfl rfl (any_of HT_.out (by as_aux_lemma => kernel_rfl)) (fun _ _ _ h => h) (Or.inl ⟨by rfl, ?_⟩) ?_ ?_
  rotate_left
  · intro w'
    go_simp
    with_reducible rfl
  rotate_left
  · simp only [Act.put, List.setIfInBounds_toArray, List.set_cons_zero, List.set_cons_succ, i64_w, i32_w]
    rfl
  refine pure_ (i := 23) (N := some 28) (v := ?_) (a' := ?_) (bm 43 10485759) rfl rfl (any_of HT_.out (by as_aux_lemma => kernel_rfl)) (fun _ _ _ h => h) (Or.inl ⟨by rfl, ?_⟩) ?_ ?_
  rotate_left
  · intro w'
    go_simp
    with_reducible rfl
  rotate_left
  · simp only [Act.put, List.setIfInBounds_toArray, List.set_cons_zero, List.set_cons_succ, i64_w, i32_w]
    rfl
  refine take_ (i := 21) (N := some 26) (v := ?_) (a' := ?_) (bm 43 12582911) rfl rfl (take_ofW HT_.out HW_.out (by as_aux_lemma => kernel_rfl)) (fun _ _ _ h => h) (Or.inl ⟨by rfl, ?_⟩) hHeld ?_ ?_
  rotate_left
  · rintro w' ⟨s0, s1, s2⟩
    have hq : w'.cell? ⟨w.heap.size, 14, none⟩ = some (.slice Ax14 x.data.length cx14) := cell_of_row w' _ 14 _ _ _ s0
    clear s0 s1 s2
    go_simp
    with_reducible rfl
  rotate_left
  · simp only [Act.put, List.setIfInBounds_toArray, List.set_cons_zero, List.set_cons_succ, i64_w, i32_w]
    rfl
  refine take_ (i := 22) (N := some 27) (v := ?_) (a' := ?_) (bm 43 16777215) rfl rfl (take_ofW HT_.out HW_.out (by as_aux_lemma => kernel_rfl)) (fun _ _ _ h => h) (Or.inl ⟨by rfl, ?_⟩) hHeld ?_ ?_
  rotate_left
  · rintro w' ⟨s0, s1, s2⟩
    have hcv := Kd.C_string (P := Try.prog) (A := Ax14) (c := cx14) Try.underlying22 Try.underlying5 Try.underlying9 (Kd.C_below HRx14.out s2.out)
    go_simp
    with_reducible rfl
  rotate_left
  · simp only [Act.put, List.setIfInBounds_toArray, List.set_cons_zero, List.set_cons_succ, i64_w, i32_w]
    rfl
  refine take_ (i := 24) (N := some 29) (v := ?_) (a' := ?_) (bm 43 33554431) rfl rfl (take_ofW HT_.out HW_.out (by as_aux_lemma => kernel_rfl)) (fun _ _ _ h => h) (Or.inl ⟨by rfl, ?_⟩) hHeld ?_ ?_
  rotate_left
  · rintro w' ⟨s0, s1, s2⟩
    have hq : w'.cell? ⟨w.heap.size + 1, 14, none⟩ = some (.slice Ay14 y.data.length cy14) := cell_of_row w' _ 14 _ _ _ s1
    clear s0 s1 s2
    go_simp
    with_reducible rfl
  rotate_left
  · simp only [Act.put, List.setIfInBounds_toArray, List.set_cons_zero, List.set_cons_succ, i64_w, i32_w]
    rfl
  refine take_ (i := 25) (N := some 30) (v := ?_) (a' := ?_) (bm 43 67108863) rfl rfl (take_ofW HT_.out HW_.out (by as_aux_lemma => kernel_rfl)) (fun _ _ _ h => h) (Or.inl ⟨by rfl, ?_⟩) hHeld ?_ ?_
  rotate_left
  · rintro w' ⟨s0, s1, s2⟩
    have hcv := Kd.C_string (P := Try.prog) (A := Ay14) (c := cy14) Try.underlying22 Try.underlying5 Try.underlying9 (Kd.C_below HRy14.out s2.out)
    go_simp
    with_reducible rfl
  rotate_left
  · simp only [Act.put, List.setIfInBounds_toArray, List.set_cons_zero, List.set_cons_succ, i64_w, i32_w]
    rfl
  refine pure_ (i := 26) (N := some 31) (v := ?_) (a' := ?_) (bm 43 134217727) rfl rfl (any_of HT_.out (by as_aux_lemma => kernel_rfl)) (fun _ _ _ h => h) (Or.inl ⟨by rfl, ?_⟩) ?_ ?_
  rotate_left
  · intro w'
    go_simp
    with_reducible rfl
  rotate_left
  · simp only [Act.put, List.setIfInBounds_toArray, List.set_cons_zero, List.set_cons_succ, i64_w, i32_w]
    rfl
  refine pure_ (i := 27) (N := some 32) (v := ?_) (a' := ?_) (bm 43 268435455) rfl rfl (any_of HT_.out (by as_aux_lemma => kernel_rfl)) (fun _ _ _ h => h) (Or.inl ⟨by rfl, ?_⟩) ?_ ?_
  rotate_left
  · intro w'
    go_simp
    with_reducible rfl
  rotate_left
  · simp only [Act.put, List.setIfInBounds_toArray, List.set_cons_zero, List.set_cons_succ, i64_w, i32_w]
    rfl
  refine pure_ (i := 28) (N := some 33) (v := ?_) (a' := ?_) (bm 43 536870911) rfl rfl (any_of HT_.out (by as_aux_lemma => kernel_rfl)) (fun _ _ _ h => h) (Or.inl ⟨by rfl, ?_⟩) ?_ ?_
  rotate_left
  · intro w'
    go_simp
    with_reducible rfl
  rotate_left
  · simp only [Act.put, List.setIfInBounds_toArray, List.set_cons_zero, List.set_cons_succ, i64_w, i32_w]
    rfl
  refine pure_ (i := 29) (N := some 34) (v := undef) (a' := ?_) (bm 43 1073741823) rfl rfl (any_of HT_.out (by as_aux_lemma => kernel_rfl)) (fun _ _ _ h => h) (Or.inr ⟨by rfl, rfl⟩) ?_ ?_
  rotate_left
  · simp only [Act.put, List.setIfInBounds_toArray, List.set_cons_zero, List.set_cons_succ, i64_w, i32_w]
    rfl
  refine pure_ (i := 30) (N := some 35) (v := undef) (a' := ?_) (bm 43 2147483647) rfl rfl (any_of HT_.out (by as_aux_lemma => kernel_rfl)) (fun _ _ _ h => h) (Or.inr ⟨by rfl, rfl⟩) ?_ ?_
  rotate_left
  · simp only [Act.put, List.setIfInBounds_toArray, List.set_cons_zero, List.set_cons_succ, i64_w, i32_w]
    rfl
  refine pure_ (i := 31) (N := some 36) (v := undef) (a' := ?_) (bm 43 4294967295) rfl rfl (any_of HT_.out (by as_aux_lemma => kernel_rfl)) (fun _ _ _ h => h) (Or.inr ⟨by rfl, rfl⟩) ?_ ?_
  rotate_left
  · simp only [Act.put, List.setIfInBounds_toArray, List.set_cons_zero, List.set_cons_succ, i64_w, i32_w]
    rfl
  refine pure_ (i := 32) (N := some 37) (v := undef) (a' := ?_) (bm 43 8589934591) rfl rfl (any_of HT_.out (by as_aux_lemma => kernel_rfl)) (fun _ _ _ h => h) (Or.inr ⟨by rfl, rfl⟩) ?_ ?_
  rotate_left
  · simp only [Act.put, List.setIfInBounds_toArray, List.set_cons_zero, List.set_cons_succ, i64_w, i32_w]
    rfl
  refine pure_ (i := 33) (N := some 38) (v := undef) (a' := ?_) (bm 43 17179869183) rfl rfl (any_of HT_.out (by as_aux_lemma => kernel_rfl)) (fun _ _ _ h => h) (Or.inr ⟨by rfl, rfl⟩) ?_ ?_
  rotate_left
  · simp only [Act.put, List.setIfInBounds_toArray, List.set_cons_zero, List.set_cons_succ, i64_w, i32_w]
    rfl
  refine pure_ (i := 34) (N := some 39) (v := ?_) (a' := ?_) (bm 43 34359738367) rfl rfl (any_of HT_.out (by as_aux_lemma => kernel_rfl)) (fun _ _ _ h => h) (Or.inl ⟨by rfl, ?_⟩) ?_ ?_
  rotate_left
  · intro w'
    go_simp
    with_reducible rfl
  rotate_left
  · simp only [Act.put, List.setIfInBounds_toArray, List.set_cons_zero, List.set_cons_succ, i64_w, i32_w]
    rfl
  refine pure_ (i := 35) (N := some 40) (v := ?_) (a' := ?_) (bm 43 68719476735) rfl rfl (any_of HT_.out (by as_aux_lemma => kernel_rfl)) (fun _ _ _ h => h) (Or.inl ⟨by rfl, ?_⟩) ?_ ?_
  rotate_left
  · intro w'
    go_simp
    with_reducible rfl
  rotate_left
  · simp only [Act.put, List.setIfInBounds_toArray, List.set_cons_zero, List.set_cons_succ, i64_w, i32_w]
    rfl
  refine pure_ (i := 36) (N := some 41) (v := undef) (a' := ?_) (bm 43 137438953471) rfl rfl (any_of HT_.out (by as_aux_lemma => kernel_rfl)) (fun _ _ _ h => h) (Or.inr ⟨by rfl, rfl⟩) ?_ ?_
  rotate_left
  · simp only [Act.put, List.setIfInBounds_toArray, List.set_cons_zero, List.set_cons_succ, i64_w, i32_w]
    rfl
  refine pure_ (i := 37) (N := some 42) (v := undef) (a' := ?_) (bm 43 274877906943) rfl rfl (any_of HT_.out (by as_aux_lemma => kernel_rfl)) (fun _ _ _ h => h) (Or.inr ⟨by rfl, rfl⟩) ?_ ?_
  rotate_left
  · simp only [Act.put, List.setIfInBounds_toArray, List.set_cons_zero, List.set_cons_succ, i64_w, i32_w]
    rfl
  refine pure_ (i := 38) (N := some 43) (v := undef) (a' := ?_) (bm 43 549755813887) rfl rfl (any_of HT_.out (by as_aux_lemma => kernel_rfl)) (fun _ _ _ h => h) (Or.inr ⟨by rfl, rfl⟩) ?_ ?_
  rotate_left
  · simp only [Act.put, List.setIfInBounds_toArray, List.set_cons_zero, List.set_cons_succ, i64_w, i32_w]
    rfl
  refine pure_ (i := 39) (N := some 44) (v := undef) (a' := ?_) (bm 43 1099511627775) rfl rfl (any_of HT_.out (by as_aux_lemma => kernel_rfl)) (fun _ _ _ h => h) (Or.inr ⟨by rfl, rfl⟩) ?_ ?_
  rotate_left
  · simp only [Act.put, List.setIfInBounds_toArray, List.set_cons_zero, List.set_cons_succ, i64_w, i32_w]
    rfl
  refine pure_ (i := 40) (N := some 45) (v := undef) (a' := ?_) (bm 43 2199023255551) rfl rfl (any_of HT_.out (by as_aux_lemma => kernel_rfl)) (fun _ _ _ h => h) (Or.inr ⟨by rfl, rfl⟩) ?_ ?_
  rotate_left
  · simp only [Act.put, List.setIfInBounds_toArray, List.set_cons_zero, List.set_cons_succ, i64_w, i32_w]
    rfl
  refine pure_ (i := 41) (N := some 46) (v := ?_) (a' := ?_) (bm 43 4398046511103) rfl rfl (any_of HT_.out (by as_aux_lemma => kernel_rfl)) (fun _ _ _ h => h) (Or.inl ⟨by rfl, ?_⟩) ?_ ?_
  rotate_left
  · intro w'
    go_simp
    with_reducible rfl
  rotate_left
  · simp only [Act.put, List.setIfInBounds_toArray, List.set_cons_zero, List.set_cons_succ, i64_w, i32_w]
    rfl
  refine pure_ (i := 42) (N := some 4) (v := ?_) (a' := ?_) (bm 43 8796093022207) rfl rfl (any_of HT_.out (by as_aux_lemma => kernel_rfl)) (fun _ _ _ h => h) (Or.inl ⟨by rfl, ?_⟩) ?_ ?_
  rotate_left
  · intro w'
    go_simp
    with_reducible rfl
  rotate_left
  · simp only [Act.put, List.setIfInBounds_toArray, List.set_cons_zero, List.set_cons_succ, i64_w, i32_w]
    rfl
  refine done_ (done_of HT_.out (by as_aux_lemma => kernel_rfl)) ?_

  go_wp2
  go_ret
  exact ⟨rfl, hHeld.2.2.out⟩

set_option maxHeartbeats 8000000 in
set_option maxRecDepth 100000 in
theorem same_4 (x y : Msg) (Ax12 : Option Addr) (cx12 : Nat) (Ax13 : Option Addr) (cx13 : Nat) (Ax14 : Option Addr) (cx14 : Nat) (Ax15 : Option Addr) (cx15 : Nat) (Ax21 : Option Addr) (cx21 : Nat) (Ay12 : Option Addr) (cy12 : Nat) (Ay13 : Option Addr) (cy13 : Nat) (Ay14 : Option Addr) (cy14 : Nat) (Ay15 : Option Addr) (cy15 : Nat) (Ay21 : Option Addr) (cy21 : Nat) (w : World) (hrx12 : Kd.C (Kd.int .u16) w Ax12 x.words.length x.words) (hcx12 : x.words.length ≤ cx12) (hrx13 : Kd.C Kd.bool w Ax13 x.bits.length x.bits) (hcx13 : x.bits.length ≤ cx13) (hrx14 : Kd.C (Kd.int .u8) w Ax14 x.data.length x.data) (hcx14 : x.data.length ≤ cx14) (hrx15 : Kd.C k50 w Ax15 x.recs.length x.recs) (hcx15 : x.recs.length ≤ cx15) (hrx21 : Kd.C k52 w Ax21 x.objects.length x.objects) (hcx21 : x.objects.length ≤ cx21) (hry12 : Kd.C (Kd.int .u16) w Ay12 y.words.length y.words) (hcy12 : y.words.length ≤ cy12) (hry13 : Kd.C Kd.bool w Ay13 y.bits.length y.bits) (hcy13 : y.bits.length ≤ cy13) (hry14 : Kd.C (Kd.int .u8) w Ay14 y.data.length y.data) (hcy14 : y.data.length ≤ cy14) (hry15 : Kd.C k50 w Ay15 y.recs.length y.recs) (hcy15 : y.recs.length ≤ cy15) (hry21 : Kd.C k52 w Ay21 y.objects.length y.objects) (hcy21 : y.objects.length ≤ cy21) (vx0 : 0 ≤ x.code ∧ x.code < 256) (vx1 : 0 ≤ x.fail ∧ x.fail < 256) (vx16 : 0 ≤ x.mei ∧ x.mei < 256) (vx17 : 0 ≤ x.kind ∧ x.kind < 256) (vx18 : 0 ≤ x.level ∧ x.level < 256) (vx19 : 0 ≤ x.more ∧ x.more < 256) (vx20 : 0 ≤ x.next ∧ x.next < 256) (vy0 : 0 ≤ y.code ∧ y.code < 256) (vy1 : 0 ≤ y.fail ∧ y.fail < 256) (vy16 : 0 ≤ y.mei ∧ y.mei < 256) (vy17 : 0 ≤ y.kind ∧ y.kind < 256) (vy18 : 0 ≤ y.level ∧ y.level < 256) (vy19 : 0 ≤ y.more ∧ y.more < 256) (vy20 : 0 ≤ y.next ∧ y.next < 256) (ox_ : ∀ q ∈ x.objects, q.f1.all u8B = true) (oy_ : ∀ q ∈ y.objects, q.f1.all u8B = true) (b0 : eqL [x.code, x.fail, x.addr, x.count, x.value, x.and_, x.or_, x.addr2, x.sub, x.status, x.events, x.messages, shB x.mei x.kind, shB x.level x.more, x.next] [y.code, y.fail, y.addr, y.count, y.value, y.and_, y.or_, y.addr2, y.sub, y.status, y.events, y.messages, shB y.mei y.kind, shB y.level y.more, y.next] = true) (k1 : Nat) (p1 : slices_Equal_uint16_uint16.f k1 x.words y.words = some true) (k2 : Nat) (p2 : slices_Equal_bool_bool.f k2 x.bits y.bits = some true) (b3 : ((strOfNums x.data).toList == (strOfNums y.data).toList) = true) (b4_ : listB recB x.recs y.recs = false) :
    Calls Try.prog 24 #[.agg #[.int .u8 x.code, .int .u8 x.fail, .int .u16 x.addr, .int .u16 x.count, .int .u16 x.value, .int .u16 x.and_, .int .u16 x.or_, .int .u16 x.addr2, .int .u16 x.sub, .int .u16 x.status, .int .u16 x.events, .int .u16 x.messages, .slice Ax12 x.words.length cx12, .slice Ax13 x.bits.length cx13, .slice Ax14 x.data.length cx14, .slice Ax15 x.recs.length cx15, .int .u8 x.mei, .int .u8 x.kind, .int .u8 x.level, .int .u8 x.more, .int .u8 x.next, .slice Ax21 x.objects.length cx21], .agg #[.int .u8 y.code, .int .u8 y.fail, .int .u16 y.addr, .int .u16 y.count, .int .u16 y.value, .int .u16 y.and_, .int .u16 y.or_, .int .u16 y.addr2, .int .u16 y.sub, .int .u16 y.status, .int .u16 y.events, .int .u16 y.messages, .slice Ay12 y.words.length cy12, .slice Ay13 y.bits.length cy13, .slice Ay14 y.data.length cy14, .slice Ay15 y.recs.length cy15, .int .u8 y.mei, .int .u8 y.kind, .int .u8 y.level, .int .u8 y.more, .int .u8 y.next, .slice Ay21 y.objects.length cy21]] w fun e w' => e = .returned (.bool false) ∧ Below w.heap.size w w' := by
  have HRx12 := Aside0.mk hrx12
  have HRx13 := Aside0.mk hrx13
  have HRx14 := Aside0.mk hrx14
  have HRx15 := Aside0.mk hrx15
  have HRx21 := Aside0.mk hrx21
  have HRy12 := Aside0.mk hry12
  have HRy13 := Aside0.mk hry13
  have HRy14 := Aside0.mk hry14
  have HRy15 := Aside0.mk hry15
  have HRy21 := Aside0.mk hry21
  have ux0 := Aside0.mk vx0
  have ux1 := Aside0.mk vx1
  have ux16 := Aside0.mk vx16
  have ux17 := Aside0.mk vx17
  have ux18 := Aside0.mk vx18
  have ux19 := Aside0.mk vx19
  have ux20 := Aside0.mk vx20
  have uy0 := Aside0.mk vy0
  have uy1 := Aside0.mk vy1
  have uy16 := Aside0.mk vy16
  have uy17 := Aside0.mk vy17
  have uy18 := Aside0.mk vy18
  have uy19 := Aside0.mk vy19
  have uy20 := Aside0.mk vy20
  have ox := Aside0.mk ox_
  have oy := Aside0.mk oy_
  have P1 := Aside0.mk p1
  have P2 := Aside0.mk p2
  have b4 := Aside0.mk b4_
  clear hrx12 hrx13 hrx14 hrx15 hrx21 hry12 hry13 hry14 hry15 hry21 vx0 vx1 vx16 vx17 vx18 vx19 vx20 vy0 vy1 vy16 vy17 vy18 vy19 vy20 ox_ oy_ p1 p2 b4_
  have hu1 := Try.underlying30
  go_enter Try.func24, Try.ntmps24
  go_wp2
  generalize Value.agg #[.int .u8 x.code, .int .u8 x.fail, .int .u16 x.addr, .int .u16 x.count, .int .u16 x.value, .int .u16 x.and_, .int .u16 x.or_, .int .u16 x.addr2, .int .u16 x.sub, .int .u16 x.status, .int .u16 x.events, .int .u16 x.messages, .slice Ax12 x.words.length cx12, .slice Ax13 x.bits.length cx13, .slice Ax14 x.data.length cx14, .slice Ax15 x.recs.length cx15, .int .u8 x.mei, .int .u8 x.kind, .int .u8 x.level, .int .u8 x.more, .int .u8 x.next, .slice Ax21 x.objects.length cx21] = g0
  generalize Value.agg #[.int .u8 y.code, .int .u8 y.fail, .int .u16 y.addr, .int .u16 y.count, .int .u16 y.value, .int .u16 y.and_, .int .u16 y.or_, .int .u16 y.addr2, .int .u16 y.sub, .int .u16 y.status, .int .u16 y.events, .int .u16 y.messages, .slice Ay12 y.words.length cy12, .slice Ay13 y.bits.length cy13, .slice Ay14 y.data.length cy14, .slice Ay15 y.recs.length cy15, .int .u8 y.mei, .int .u8 y.kind, .int .u8 y.level, .int .u8 y.more, .int .u8 y.next, .slice Ay21 y.objects.length cy21] = g1
  refine start_ (n := 43) (S := fun w' => w'.heap[w.heap.size]? = some (.cells (#[.int .u8 x.code, .int .u8 x.fail, .int .u16 x.addr, .int .u16 x.count, .int .u16 x.value, .int .u16 x.and_, .int .u16 x.or_, .int .u16 x.addr2, .int .u16 x.sub, .int .u16 x.status, .int .u16 x.events, .int .u16 x.messages, .slice Ax12 x.words.length cx12, .slice Ax13 x.bits.length cx13, .slice Ax14 x.data.length cx14, .slice Ax15 x.recs.length cx15, .int .u8 x.mei, .int .u8 x.kind, .int .u8 x.level, .int .u8 x.more, .int .u8 x.next, .slice Ax21 x.objects.length cx21] : Array Value) 30 (0, 0)) ∧ w'.heap[w.heap.size + 1]? = some (.cells (#[.int .u8 y.code, .int .u8 y.fail, .int .u16 y.addr, .int .u16 y.count, .int .u16 y.value, .int .u16 y.and_, .int .u16 y.or_, .int .u16 y.addr2, .int .u16 y.sub, .int .u16 y.status, .int .u16 y.events, .int .u16 y.messages, .slice Ay12 y.words.length cy12, .slice Ay13 y.bits.length cy13, .slice Ay14 y.data.length cy14, .slice Ay15 y.recs.length cy15, .int .u8 y.mei, .int .u8 y.kind, .int .u8 y.level, .int .u8 y.more, .int .u8 y.next, .slice Ay21 y.objects.length cy21] : Array Value) 30 (0, 0)) ∧ Aside0 (Below w.heap.size w w')) (ds := []) (bm 43 0) (by as_aux_lemma => kernel_rfl) rfl (by as_aux_lemma => kernel_rfl) ⟨(heap_x _ _ _ _), (heap_y _ _ _ _), (Aside0.mk (by repeat (first | exact Below.refl _ _ | (with_reducible first | apply below_alloc | apply pw_below_drewN | apply below_drew1))))⟩ (fun hHeld => ?_)
  generalize World.drew _ = wd at hHeld ⊢
  refine with_tabW same.tab1 same.bits1 (fun HT_ HW_ => ?_)
  refine take_ (i := 0) (N := some 5) (v := ?_) (a' := ?_) (bm 43 1) rfl rfl (take_ofW HT_.out HW_.out (by as_aux_lemma => kernel_rfl)) (fun _ _ _ h => h) (Or.inl ⟨by rfl, ?_⟩) hHeld ?_ ?_
  rotate_left
  · rintro w' ⟨s0, s1, s2⟩
    refine exec_load_row 30 (.tmp 2) ?ha_x (w.heap.size) ?hb_x _ _ _ _ s0 Try.underlying30 ?hc_x ?hd_x
    case ha_x => rfl
    case hb_x => rfl
    case hc_x => rfl
    exact (by as_aux_lemma => kernel_rfl)
  rotate_left
  · simp only [Act.put, List.setIfInBounds_toArray, List.set_cons_zero, List.set_cons_succ, i64_w, i32_w]
    rfl
  refine take_ (i := 2) (N := some 7) (v := ?_) (a' := ?_) (bm 43 5) rfl rfl (take_ofW HT_.out HW_.out (by as_aux_lemma => kernel_rfl)) (fun _ _ _ h => h) (Or.inl ⟨by rfl, ?_⟩) hHeld ?_ ?_
  rotate_left
  · rintro w' ⟨s0, s1, s2⟩
    refine exec_load_row 30 (.tmp 3) ?ha_y (w.heap.size + 1) ?hb_y _ _ _ _ s1 Try.underlying30 ?hc_y ?hd_y
    case ha_y => rfl
    case hb_y => rfl
    case hc_y => rfl
    exact (by as_aux_lemma => kernel_rfl)
  rotate_left
  · simp only [Act.put, List.setIfInBounds_toArray, List.set_cons_zero, List.set_cons_succ, i64_w, i32_w]
    rfl
  refine one_ (i := 1) (N := some 6) (bm 43 7) rfl rfl (one_of HT_.out (by as_aux_lemma => kernel_rfl)) (by as_aux_lemma => decide) (fun K hK => ?_)
  refine goes_ Try.func26 (by as_aux_lemma => kernel_rfl) rfl #[.agg #[.int .u8 x.code, .int .u8 x.fail, .int .u16 x.addr, .int .u16 x.count, .int .u16 x.value, .int .u16 x.and_, .int .u16 x.or_, .int .u16 x.addr2, .int .u16 x.sub, .int .u16 x.status, .int .u16 x.events, .int .u16 x.messages, .slice Ax12 x.words.length cx12, .slice Ax13 x.bits.length cx13, .slice Ax14 x.data.length cx14, .slice Ax15 x.recs.length cx15, .int .u8 x.mei, .int .u8 x.kind, .int .u8 x.level, .int .u8 x.more, .int .u8 x.next, .slice Ax21 x.objects.length cx21]] (by rfl) rfl rfl (by simp only [List.map_toArray, List.map_cons, List.map_nil]; rfl) ?_
  with_reducible refine (plain_any x Ax12 cx12 Ax13 cx13 Ax14 cx14 Ax15 cx15 Ax21 cx21 _ ux0.out.1 ux0.out.2 ux1.out.1 ux1.out.2 ux16.out.1 ux16.out.2 ux17.out.1 ux17.out.2 ux18.out.1 ux18.out.2 ux19.out.1 ux19.out.2 ux20.out.1 ux20.out.2).mono ?_
  rintro e wx1 ⟨rfl, hb⟩
  refine ⟨_, rfl, ?_⟩
  refine hK.out _ _ ⟨((hb.block _ (heap_lt' hHeld.1)).trans hHeld.1), ((hb.block _ (heap_lt' hHeld.2.1)).trans hHeld.2.1), (Aside0.mk (below_step hHeld.2.2.out hb))⟩ (fun hHeld => ?_)
  clear hK K
  refine norm_ (a' := ?_) ?_ ?_
  rotate_left
  · show Act.put _ (some 6) _ = _
    simp only [Act.put, List.setIfInBounds_toArray, List.set_cons_zero, List.set_cons_succ, i64_w, i32_w]
    rfl
  generalize Value.agg #[.int .u8 x.code, .int .u8 x.fail, .int .u16 x.addr, .int .u16 x.count, .int .u16 x.value, .int .u16 x.and_, .int .u16 x.or_, .int .u16 x.addr2, .int .u16 x.sub, .int .u16 x.status, .int .u16 x.events, .int .u16 x.messages, .slice Ax12 x.words.length cx12, .slice Ax13 x.bits.length cx13, .slice Ax14 x.data.length cx14, .slice Ax15 x.recs.length cx15, .int .u8 x.mei, .int .u8 x.kind, .int .u8 x.level, .int .u8 x.more, .int .u8 x.next, .slice Ax21 x.objects.length cx21] = g5
  refine one_ (i := 3) (N := some 8) (bm 43 15) rfl rfl (one_of HT_.out (by as_aux_lemma => kernel_rfl)) (by as_aux_lemma => decide) (fun K hK => ?_)
  refine goes_ Try.func26 (by as_aux_lemma => kernel_rfl) rfl #[.agg #[.int .u8 y.code, .int .u8 y.fail, .int .u16 y.addr, .int .u16 y.count, .int .u16 y.value, .int .u16 y.and_, .int .u16 y.or_, .int .u16 y.addr2, .int .u16 y.sub, .int .u16 y.status, .int .u16 y.events, .int .u16 y.messages, .slice Ay12 y.words.length cy12, .slice Ay13 y.bits.length cy13, .slice Ay14 y.data.length cy14, .slice Ay15 y.recs.length cy15, .int .u8 y.mei, .int .u8 y.kind, .int .u8 y.level, .int .u8 y.more, .int .u8 y.next, .slice Ay21 y.objects.length cy21]] (by rfl) rfl rfl (by simp only [List.map_toArray, List.map_cons, List.map_nil]; rfl) ?_
  with_reducible refine (plain_any y Ay12 cy12 Ay13 cy13 Ay14 cy14 Ay15 cy15 Ay21 cy21 _ uy0.out.1 uy0.out.2 uy1.out.1 uy1.out.2 uy16.out.1 uy16.out.2 uy17.out.1 uy17.out.2 uy18.out.1 uy18.out.2 uy19.out.1 uy19.out.2 uy20.out.1 uy20.out.2).mono ?_
  rintro e wy1 ⟨rfl, hb⟩
  refine ⟨_, rfl, ?_⟩
  refine hK.out _ _ ⟨((hb.block _ (heap_lt' hHeld.1)).trans hHeld.1), ((hb.block _ (heap_lt' hHeld.2.1)).trans hHeld.2.1), (Aside0.mk (below_step hHeld.2.2.out hb))⟩ (fun hHeld => ?_)
  clear hK K
  refine norm_ (a' := ?_) ?_ ?_
  rotate_left
  · show Act.put _ (some 8) _ = _
    simp only [Act.put, List.setIfInBounds_toArray, List.set_cons_zero, List.set_cons_succ, i64_w, i32_w]
    rfl
  generalize Value.agg #[.int .u8 y.code, .int .u8 y.fail, .int .u16 y.addr, .int .u16 y.count, .int .u16 y.value, .int .u16 y.and_, .int .u16 y.or_, .int .u16 y.addr2, .int .u16 y.sub, .int .u16 y.status, .int .u16 y.events, .int .u16 y.messages, .slice Ay12 y.words.length cy12, .slice Ay13 y.bits.length cy13, .slice Ay14 y.data.length cy14, .slice Ay15 y.recs.length cy15, .int .u8 y.mei, .int .u8 y.kind, .int .u8 y.level, .int .u8 y.more, .int .u8 y.next, .slice Ay21 y.objects.length cy21] = g7
  refine pure_ (i := 4) (N := some 9) (v := ?_) (a' := ?_) (bm 43 31) rfl rfl (any_of HT_.out (by as_aux_lemma => kernel_rfl)) (fun _ _ _ h => h) (Or.inl ⟨by rfl, ?_⟩) ?_ ?_
  rotate_left
  · intro w'
    go_simp
    with_reducible rfl
  rotate_left
  · simp only [Act.put, List.setIfInBounds_toArray, List.set_cons_zero, List.set_cons_succ, i64_w, i32_w]
    rfl
  generalize Value.agg #[.int .u16 x.code, .int .u16 x.fail, .int .u16 x.addr, .int .u16 x.count, .int .u16 x.value, .int .u16 x.and_, .int .u16 x.or_, .int .u16 x.addr2, .int .u16 x.sub, .int .u16 x.status, .int .u16 x.events, .int .u16 x.messages, .int .u16 (shB x.mei x.kind), .int .u16 (shB x.level x.more), .int .u16 x.next] = g6
  generalize Value.agg #[.int .u16 y.code, .int .u16 y.fail, .int .u16 y.addr, .int .u16 y.count, .int .u16 y.value, .int .u16 y.and_, .int .u16 y.or_, .int .u16 y.addr2, .int .u16 y.sub, .int .u16 y.status, .int .u16 y.events, .int .u16 y.messages, .int .u16 (shB y.mei y.kind), .int .u16 (shB y.level y.more), .int .u16 y.next] = g8
  refine pure_ (i := 5) (N := some 10) (v := ?_) (a' := ?_) (bm 43 63) rfl rfl (any_of HT_.out (by as_aux_lemma => kernel_rfl)) (fun _ _ _ h => h) (Or.inl ⟨by rfl, ?_⟩) ?_ ?_
  rotate_left
  · intro w'
    go_simp
    with_reducible rfl
  rotate_left
  · simp only [Act.put, List.setIfInBounds_toArray, List.set_cons_zero, List.set_cons_succ, i64_w, i32_w]
    rfl
  refine pure_ (i := 6) (N := some 11) (v := ?_) (a' := ?_) (bm 43 127) rfl rfl (any_of HT_.out (by as_aux_lemma => kernel_rfl)) (fun _ _ _ h => h) (Or.inl ⟨by rfl, ?_⟩) ?_ ?_
  rotate_left
  · intro w'
    go_simp
    with_reducible rfl
  rotate_left
  · simp only [Act.put, List.setIfInBounds_toArray, List.set_cons_zero, List.set_cons_succ, i64_w, i32_w]
    rfl
  refine pure_ (i := 8) (N := some 13) (v := ?_) (a' := ?_) (bm 43 383) rfl rfl (any_of HT_.out (by as_aux_lemma => kernel_rfl)) (fun _ _ _ h => h) (Or.inl ⟨by rfl, ?_⟩) ?_ ?_
  rotate_left
  · intro w'
    go_simp
    with_reducible rfl
  rotate_left
  · simp only [Act.put, List.setIfInBounds_toArray, List.set_cons_zero, List.set_cons_succ, i64_w, i32_w]
    rfl
  refine take_ (i := 7) (N := some 12) (v := ?_) (a' := ?_) (bm 43 511) rfl rfl (take_ofW HT_.out HW_.out (by as_aux_lemma => kernel_rfl)) (fun _ _ _ h => h) (Or.inl ⟨by rfl, ?_⟩) hHeld ?_ ?_
  rotate_left
  · rintro w' ⟨s0, s1, s2⟩
    have hq : w'.cell? ⟨w.heap.size, 12, none⟩ = some (.slice Ax12 x.words.length cx12) := cell_of_row w' _ 12 _ _ _ s0
    clear s0 s1 s2
    go_simp
    with_reducible rfl
  rotate_left
  · simp only [Act.put, List.setIfInBounds_toArray, List.set_cons_zero, List.set_cons_succ, i64_w, i32_w]
    rfl
  refine take_ (i := 9) (N := some 14) (v := ?_) (a' := ?_) (bm 43 1023) rfl rfl (take_ofW HT_.out HW_.out (by as_aux_lemma => kernel_rfl)) (fun _ _ _ h => h) (Or.inl ⟨by rfl, ?_⟩) hHeld ?_ ?_
  rotate_left
  · rintro w' ⟨s0, s1, s2⟩
    have hq : w'.cell? ⟨w.heap.size + 1, 12, none⟩ = some (.slice Ay12 y.words.length cy12) := cell_of_row w' _ 12 _ _ _ s1
    clear s0 s1 s2
    go_simp
    with_reducible rfl
  rotate_left
  · simp only [Act.put, List.setIfInBounds_toArray, List.set_cons_zero, List.set_cons_succ, i64_w, i32_w]
    rfl
  refine one_ (i := 10) (N := some 15) (bm 43 2047) rfl rfl (one_of HT_.out (by as_aux_lemma => kernel_rfl)) (by as_aux_lemma => decide) (fun K hK => ?_)
  refine goes_ Try.func27 (by as_aux_lemma => kernel_rfl) rfl #[.slice Ax12 x.words.length cx12, .slice Ay12 y.words.length cy12] (by rfl) rfl rfl (by simp only [List.map_toArray, List.map_cons, List.map_nil]; rfl) ?_
  with_reducible refine (slices_Equal_uint16_uint16.calls k1 _ _ x.words _ _ y.words true _ (Kd.C_below HRx12.out hHeld.2.2.out) hcx12 (Kd.C_below HRy12.out hHeld.2.2.out) hcy12 P1.out).mono ?_
  rintro e w2 ⟨rfl, ⟨nd1, rfl⟩⟩
  refine ⟨_, rfl, ?_⟩
  refine hK.out _ _ ⟨hHeld.1, hHeld.2.1, (Aside0.mk (pw_below_drewN hHeld.2.2.out _))⟩ (fun hHeld => ?_)
  clear hK K
  refine norm_ (a' := ?_) ?_ ?_
  rotate_left
  · show Act.put _ (some 15) _ = _
    simp only [Act.put, List.setIfInBounds_toArray, List.set_cons_zero, List.set_cons_succ, i64_w, i32_w]
    rfl
  refine pure_ (i := 11) (N := some 16) (v := ?_) (a' := ?_) (bm 43 4095) rfl rfl (any_of HT_.out (by as_aux_lemma => kernel_rfl)) (fun _ _ _ h => h) (Or.inl ⟨by rfl, ?_⟩) ?_ ?_
  rotate_left
  · intro w'
    go_simp
    with_reducible rfl
  rotate_left
  · simp only [Act.put, List.setIfInBounds_toArray, List.set_cons_zero, List.set_cons_succ, i64_w, i32_w]
    rfl
  refine pure_ (i := 12) (N := some 17) (v := ?_) (a' := ?_) (bm 43 8191) rfl rfl (any_of HT_.out (by as_aux_lemma => kernel_rfl)) (fun _ _ _ h => h) (Or.inl ⟨by rfl, ?_⟩) ?_ ?_
  rotate_left
  · intro w'
    go_simp
    with_reducible rfl
  rotate_left
  · simp only [Act.put, List.setIfInBounds_toArray, List.set_cons_zero, List.set_cons_succ, i64_w, i32_w]
    rfl
  refine pure_ (i := 13) (N := some 18) (v := ?_) (a' := ?_) (bm 43 16383) rfl rfl (any_of HT_.out (by as_aux_lemma => kernel_rfl)) (fun _ _ _ h => h) (Or.inl ⟨by rfl, ?_⟩) ?_ ?_
  rotate_left
  · intro w'
    go_simp
    with_reducible rfl
  rotate_left
  · simp only [Act.put, List.setIfInBounds_toArray, List.set_cons_zero, List.set_cons_succ, i64_w, i32_w]
    rfl
  refine pure_ (i := 15) (N := some 20) (v := ?_) (a' := ?_) (bm 43 49151) rfl rfl (any_of HT_.out (by as_aux_lemma => kernel_rfl)) (fun _ _ _ h => h) (Or.inl ⟨by rfl, ?_⟩) ?_ ?_
  rotate_left
  · intro w'
    go_simp
    with_reducible rfl
  rotate_left
  · simp only [Act.put, List.setIfInBounds_toArray, List.set_cons_zero, List.set_cons_succ, i64_w, i32_w]
    rfl
  refine take_ (i := 14) (N := some 19) (v := ?_) (a' := ?_) (bm 43 65535) rfl rfl (take_ofW HT_.out HW_.out (by as_aux_lemma => kernel_rfl)) (fun _ _ _ h => h) (Or.inl ⟨by rfl, ?_⟩) hHeld ?_ ?_
  rotate_left
  · rintro w' ⟨s0, s1, s2⟩
    have hq : w'.cell? ⟨w.heap.size, 13, none⟩ = some (.slice Ax13 x.bits.length cx13) := cell_of_row w' _ 13 _ _ _ s0
    clear s0 s1 s2
    go_simp
    with_reducible rfl
  rotate_left
  · simp only [Act.put, List.setIfInBounds_toArray, List.set_cons_zero, List.set_cons_succ, i64_w, i32_w]
    rfl
  refine take_ (i := 16) (N := some 21) (v := ?_) (a' := ?_) (bm 43 131071) rfl rfl (take_ofW HT_.out HW_.out (by as_aux_lemma => kernel_rfl)) (fun _ _ _ h => h) (Or.inl ⟨by rfl, ?_⟩) hHeld ?_ ?_
  rotate_left
  · rintro w' ⟨s0, s1, s2⟩
    have hq : w'.cell? ⟨w.heap.size + 1, 13, none⟩ = some (.slice Ay13 y.bits.length cy13) := cell_of_row w' _ 13 _ _ _ s1
    clear s0 s1 s2
    go_simp
    with_reducible rfl
  rotate_left
  · simp only [Act.put, List.setIfInBounds_toArray, List.set_cons_zero, List.set_cons_succ, i64_w, i32_w]
    rfl
  refine one_ (i := 17) (N := some 22) (bm 43 262143) rfl rfl (one_of HT_.out (by as_aux_lemma => kernel_rfl)) (by as_aux_lemma => decide) (fun K hK => ?_)
  refine goes_ Try.func28 (by as_aux_lemma => kernel_rfl) rfl #[.slice Ax13 x.bits.length cx13, .slice Ay13 y.bits.length cy13] (by rfl) rfl rfl (by simp only [List.map_toArray, List.map_cons, List.map_nil]; rfl) ?_
  with_reducible refine (slices_Equal_bool_bool.calls k2 _ _ x.bits _ _ y.bits true _ (Kd.C_below HRx13.out hHeld.2.2.out) hcx13 (Kd.C_below HRy13.out hHeld.2.2.out) hcy13 P2.out).mono ?_
  rintro e w3 ⟨rfl, ⟨nd2, rfl⟩⟩
  refine ⟨_, rfl, ?_⟩
  refine hK.out _ _ ⟨hHeld.1, hHeld.2.1, (Aside0.mk (pw_below_drewN hHeld.2.2.out _))⟩ (fun hHeld => ?_)
  clear hK K
  refine norm_ (a' := ?_) ?_ ?_
  rotate_left
  · show Act.put _ (some 22) _ = _
    simp only [Act.put, List.setIfInBounds_toArray, List.set_cons_zero, List.set_cons_succ, i64_w, i32_w]
    rfl
  refine pure_ (i := 18) (N := some 23) (v := ?_) (a' := ?_) (bm 43 524287) rfl rfl (any_of HT_.out (by as_aux_lemma => kernel_rfl)) (fun _ _ _ h => h) (Or.inl ⟨by rfl, ?_⟩) ?_ ?_
  rotate_left
  · intro w'
    go_simp
    with_reducible rfl
  rotate_left
  · simp only [Act.put, List.setIfInBounds_toArray, List.set_cons_zero, List.set_cons_succ, i64_w, i32_w]
    rfl
  refine pure_ (i := 19) (N := some 24) (v := ?_) (a' := ?_) (bm 43 1048575) rfl rfl (any_of HT_.out (by as_aux_lemma => kernel_rfl)) (fun _ _ _ h => h) (Or.inl ⟨by rfl, ?_⟩) ?_ ?_
  rotate_left
  · intro w'
    go_simp
    with_reducible rfl
  rotate_left
  · simp only [Act.put, List.setIfInBounds_toArray, List.set_cons_zero, List.set_cons_succ, i64_w, i32_w]
    rfl
  refine pure_ (i := 20) (N := some 25) (v := ?_) (a' := ?_) (bm 43 2097151) rfl rfl (any_of HT_.out (by as_aux_lemma => kernel_rfl)) (fun _ _ _ h => h) (Or.inl ⟨by rfl, ?_⟩) ?_ ?_
  rotate_left
  · intro w'
    go_simp
    with_reducible rfl
  rotate_left
  · simp only [Act.put, List.setIfInBounds_toArray, List.set_cons_zero, List.set_cons_succ, i64_w, i32_w]
    rfl
  refine pure_ (i := 23) (N := some 28) (v := ?_) (a' := ?_) (bm 43 10485759) rfl rfl (any_of HT_.out (by as_aux_lemma => kernel_rfl)) (fun _ _ _ h => h) (Or.inl ⟨by rfl, ?_⟩) ?_ ?_
  rotate_left
  · intro w'
    go_simp
    with_reducible rfl
  rotate_left
  · simp only [Act.put, List.setIfInBounds_toArray, List.set_cons_zero, List.set_cons_succ, i64_w, i32_w]
    rfl
  refine take_ (i := 21) (N := some 26) (v := ?_) (a' := ?_) (bm 43 12582911) rfl rfl (take_ofW HT_.out HW_.out (by as_aux_lemma => kernel_rfl)) (fun _ _ _ h => h) (Or.inl ⟨by rfl, ?_⟩) hHeld ?_ ?_
  rotate_left
  · rintro w' ⟨s0, s1, s2⟩
    have hq : w'.cell? ⟨w.heap.size, 14, none⟩ = some (.slice Ax14 x.data.length cx14) := cell_of_row w' _ 14 _ _ _ s0
    clear s0 s1 s2
    go_simp
    with_reducible rfl
  rotate_left
  · simp only [Act.put, List.setIfInBounds_toArray, List.set_cons_zero, List.set_cons_succ, i64_w, i32_w]
    rfl
  refine take_ (i := 22) (N := some 27) (v := ?_) (a' := ?_) (bm 43 16777215) rfl rfl (take_ofW HT_.out HW_.out (by as_aux_lemma => kernel_rfl)) (fun _ _ _ h => h) (Or.inl ⟨by rfl, ?_⟩) hHeld ?_ ?_
  rotate_left
  · rintro w' ⟨s0, s1, s2⟩
    have hcv := Kd.C_string (P := Try.prog) (A := Ax14) (c := cx14) Try.underlying22 Try.underlying5 Try.underlying9 (Kd.C_below HRx14.out s2.out)
    go_simp
    with_reducible rfl
  rotate_left
  · simp only [Act.put, List.setIfInBounds_toArray, List.set_cons_zero, List.set_cons_succ, i64_w, i32_w]
    rfl
  refine take_ (i := 24) (N := some 29) (v := ?_) (a' := ?_) (bm 43 33554431) rfl rfl (take_ofW HT_.out HW_.out (by as_aux_lemma => kernel_rfl)) (fun _ _ _ h => h) (Or.inl ⟨by rfl, ?_⟩) hHeld ?_ ?_
  rotate_left
  · rintro w' ⟨s0, s1, s2⟩
    have hq : w'.cell? ⟨w.heap.size + 1, 14, none⟩ = some (.slice Ay14 y.data.length cy14) := cell_of_row w' _ 14 _ _ _ s1
    clear s0 s1 s2
    go_simp
    with_reducible rfl
  rotate_left
  · simp only [Act.put, List.setIfInBounds_toArray, List.set_cons_zero, List.set_cons_succ, i64_w, i32_w]
    rfl
  refine take_ (i := 25) (N := some 30) (v := ?_) (a' := ?_) (bm 43 67108863) rfl rfl (take_ofW HT_.out HW_.out (by as_aux_lemma => kernel_rfl)) (fun _ _ _ h => h) (Or.inl ⟨by rfl, ?_⟩) hHeld ?_ ?_
  rotate_left
  · rintro w' ⟨s0, s1, s2⟩
    have hcv := Kd.C_string (P := Try.prog) (A := Ay14) (c := cy14) Try.underlying22 Try.underlying5 Try.underlying9 (Kd.C_below HRy14.out s2.out)
    go_simp
    with_reducible rfl
  rotate_left
  · simp only [Act.put, List.setIfInBounds_toArray, List.set_cons_zero, List.set_cons_succ, i64_w, i32_w]
    rfl
  refine pure_ (i := 26) (N := some 31) (v := ?_) (a' := ?_) (bm 43 134217727) rfl rfl (any_of HT_.out (by as_aux_lemma => kernel_rfl)) (fun _ _ _ h => h) (Or.inl ⟨by rfl, ?_⟩) ?_ ?_
  rotate_left
  · intro w'
    go_simp
    with_reducible rfl
  rotate_left
  · simp only [Act.put, List.setIfInBounds_toArray, List.set_cons_zero, List.set_cons_succ, i64_w, i32_w]
    rfl
  refine pure_ (i := 27) (N := some 32) (v := ?_) (a' := ?_) (bm 43 268435455) rfl rfl (any_of HT_.out (by as_aux_lemma => kernel_rfl)) (fun _ _ _ h => h) (Or.inl ⟨by rfl, ?_⟩) ?_ ?_
  rotate_left
  · intro w'
    go_simp
    with_reducible rfl
  rotate_left
  · simp only [Act.put, List.setIfInBounds_toArray, List.set_cons_zero, List.set_cons_succ, i64_w, i32_w]
    rfl
  refine pure_ (i := 28) (N := some 33) (v := ?_) (a' := ?_) (bm 43 536870911) rfl rfl (any_of HT_.out (by as_aux_lemma => kernel_rfl)) (fun _ _ _ h => h) (Or.inl ⟨by rfl, ?_⟩) ?_ ?_
  rotate_left
  · intro w'
    go_simp
    with_reducible rfl
  rotate_left
  · simp only [Act.put, List.setIfInBounds_toArray, List.set_cons_zero, List.set_cons_succ, i64_w, i32_w]
    rfl
  refine pure_ (i := 29) (N := some 34) (v := ?_) (a' := ?_) (bm 43 1073741823) rfl rfl (any_of HT_.out (by as_aux_lemma => kernel_rfl)) (fun _ _ _ h => h) (Or.inl ⟨by rfl, ?_⟩) ?_ ?_
  rotate_left
  · intro w'
    go_simp
    with_reducible rfl
  rotate_left
  · simp only [Act.put, List.setIfInBounds_toArray, List.set_cons_zero, List.set_cons_succ, i64_w, i32_w]
    rfl
  refine pure_ (i := 31) (N := some 36) (v := ?_) (a' := ?_) (bm 43 3221225471) rfl rfl (any_of HT_.out (by as_aux_lemma => kernel_rfl)) (fun _ _ _ h => h) (Or.inl ⟨by rfl, ?_⟩) ?_ ?_
  rotate_left
  · intro w'
    go_simp
    with_reducible rfl
  rotate_left
  · simp only [Act.put, List.setIfInBounds_toArray, List.set_cons_zero, List.set_cons_succ, i64_w, i32_w]
    rfl
  refine take_ (i := 30) (N := some 35) (v := ?_) (a' := ?_) (bm 43 4294967295) rfl rfl (take_ofW HT_.out HW_.out (by as_aux_lemma => kernel_rfl)) (fun _ _ _ h => h) (Or.inl ⟨by rfl, ?_⟩) hHeld ?_ ?_
  rotate_left
  · rintro w' ⟨s0, s1, s2⟩
    have hq : w'.cell? ⟨w.heap.size, 15, none⟩ = some (.slice Ax15 x.recs.length cx15) := cell_of_row w' _ 15 _ _ _ s0
    clear s0 s1 s2
    go_simp
    with_reducible rfl
  rotate_left
  · simp only [Act.put, List.setIfInBounds_toArray, List.set_cons_zero, List.set_cons_succ, i64_w, i32_w]
    rfl
  refine take_ (i := 32) (N := some 37) (v := ?_) (a' := ?_) (bm 43 8589934591) rfl rfl (take_ofW HT_.out HW_.out (by as_aux_lemma => kernel_rfl)) (fun _ _ _ h => h) (Or.inl ⟨by rfl, ?_⟩) hHeld ?_ ?_
  rotate_left
  · rintro w' ⟨s0, s1, s2⟩
    have hq : w'.cell? ⟨w.heap.size + 1, 15, none⟩ = some (.slice Ay15 y.recs.length cy15) := cell_of_row w' _ 15 _ _ _ s1
    clear s0 s1 s2
    go_simp
    with_reducible rfl
  rotate_left
  · simp only [Act.put, List.setIfInBounds_toArray, List.set_cons_zero, List.set_cons_succ, i64_w, i32_w]
    rfl
  refine one_ (i := 33) (N := some 38) (bm 43 17179869183) rfl rfl (one_of HT_.out (by as_aux_lemma => kernel_rfl)) (by as_aux_lemma => decide) (fun K hK => ?_)
  refine goes_ Try.func29 (by as_aux_lemma => kernel_rfl) rfl #[.slice Ax15 x.recs.length cx15, .slice Ay15 y.recs.length cy15, .func (.func 30) #[] #[]] (by rfl) rfl rfl (by simp only [List.map_toArray, List.map_cons, List.map_nil]; rfl) ?_
  with_reducible refine (recs_any _ _ _ _ x.recs y.recs _ (Kd.C_below HRx15.out hHeld.2.2.out) (Kd.C_below HRy15.out hHeld.2.2.out)).mono ?_
  rintro e w4 ⟨rfl, hb⟩
  refine ⟨_, rfl, ?_⟩
  rw [b4.out]
  refine hK.out _ _ ⟨((hb.block _ (heap_lt' hHeld.1)).trans hHeld.1), ((hb.block _ (heap_lt' hHeld.2.1)).trans hHeld.2.1), (Aside0.mk (below_step hHeld.2.2.out hb))⟩ (fun hHeld => ?_)
  clear hK K
  refine norm_ (a' := ?_) ?_ ?_
  rotate_left
  · show Act.put _ (some 38) _ = _
    simp only [Act.put, List.setIfInBounds_toArray, List.set_cons_zero, List.set_cons_succ, i64_w, i32_w]
    rfl
  refine pure_ (i := 34) (N := some 39) (v := ?_) (a' := ?_) (bm 43 34359738367) rfl rfl (any_of HT_.out (by as_aux_lemma => kernel_rfl)) (fun _ _ _ h => h) (Or.inl ⟨by rfl, ?_⟩) ?_ ?_
  rotate_left
  · intro w'
    go_simp
    with_reducible rfl
  rotate_left
  · simp only [Act.put, List.setIfInBounds_toArray, List.set_cons_zero, List.set_cons_succ, i64_w, i32_w]
    rfl
  refine pure_ (i := 35) (N := some 40) (v := ?_) (a' := ?_) (bm 43 68719476735) rfl rfl (any_of HT_.out (by as_aux_lemma => kernel_rfl)) (fun _ _ _ h => h) (Or.inl ⟨by rfl, ?_⟩) ?_ ?_
  rotate_left
  · intro w'
    go_simp
    with_reducible rfl
  rotate_left
  · simp only [Act.put, List.setIfInBounds_toArray, List.set_cons_zero, List.set_cons_succ, i64_w, i32_w]
    rfl
  refine pure_ (i := 36) (N := some 41) (v := undef) (a' := ?_) (bm 43 137438953471) rfl rfl (any_of HT_.out (by as_aux_lemma => kernel_rfl)) (fun _ _ _ h => h) (Or.inr ⟨by rfl, rfl⟩) ?_ ?_
  rotate_left
  · simp only [Act.put, List.setIfInBounds_toArray, List.set_cons_zero, List.set_cons_succ, i64_w, i32_w]
    rfl
  refine pure_ (i := 37) (N := some 42) (v := undef) (a' := ?_) (bm 43 274877906943) rfl rfl (any_of HT_.out (by as_aux_lemma => kernel_rfl)) (fun _ _ _ h => h) (Or.inr ⟨by rfl, rfl⟩) ?_ ?_
  rotate_left
  · simp only [Act.put, List.setIfInBounds_toArray, List.set_cons_zero, List.set_cons_succ, i64_w, i32_w]
    rfl
  refine pure_ (i := 38) (N := some 43) (v := undef) (a' := ?_) (bm 43 549755813887) rfl rfl (any_of HT_.out (by as_aux_lemma => kernel_rfl)) (fun _ _ _ h => h) (Or.inr ⟨by rfl, rfl⟩) ?_ ?_
  rotate_left
  · simp only [Act.put, List.setIfInBounds_toArray, List.set_cons_zero, List.set_cons_succ, i64_w, i32_w]
    rfl
  refine pure_ (i := 39) (N := some 44) (v := undef) (a' := ?_) (bm 43 1099511627775) rfl rfl (any_of HT_.out (by as_aux_lemma => kernel_rfl)) (fun _ _ _ h => h) (Or.inr ⟨by rfl, rfl⟩) ?_ ?_
  rotate_left
  · simp only [Act.put, List.setIfInBounds_toArray, List.set_cons_zero, List.set_cons_succ, i64_w, i32_w]
    rfl
  refine pure_ (i := 40) (N := some 45) (v := undef) (a' := ?_) (bm 43 2199023255551) rfl rfl (any_of HT_.out (by as_aux_lemma => kernel_rfl)) (fun _ _ _ h => h) (Or.inr ⟨by rfl, rfl⟩) ?_ ?_
  rotate_left
  · simp only [Act.put, List.setIfInBounds_toArray, List.set_cons_zero, List.set_cons_succ, i64_w, i32_w]
    rfl
  refine pure_ (i := 41) (N := some 46) (v := ?_) (a' := ?_) (bm 43 4398046511103) rfl rfl (any_of HT_.out (by as_aux_lemma => kernel_rfl)) (fun _ _ _ h => h) (Or.inl ⟨by rfl, ?_⟩) ?_ ?_
  rotate_left
  · intro w'
    go_simp
    with_reducible rfl
  rotate_left
  · simp only [Act.put, List.setIfInBounds_toArray, List.set_cons_zero, List.set_cons_succ, i64_w, i32_w]
    rfl
  refine pure_ (i := 42) (N := some 4) (v := ?_) (a' := ?_) (bm 43 8796093022207) rfl rfl (any_of HT_.out (by as_aux_lemma => kernel_rfl)) (fun _ _ _ h => h) (Or.inl ⟨by rfl, ?_⟩) ?_ ?_
  rotate_left
  · intro w'
    go_simp
    with_reducible rfl
  rotate_left
  · simp only [Act.put, List.setIfInBounds_toArray, List.set_cons_zero, List.set_cons_succ, i64_w, i32_w]
    rfl
  refine done_ (done_of HT_.out (by as_aux_lemma => kernel_rfl)) ?_

  go_wp2
  go_ret
  exact ⟨rfl, hHeld.2.2.out⟩

set_option maxHeartbeats 8000000 in
set_option maxRecDepth 100000 in
theorem same_5 (x y : Msg) (Ax12 : Option Addr) (cx12 : Nat) (Ax13 : Option Addr) (cx13 : Nat) (Ax14 : Option Addr) (cx14 : Nat) (Ax15 : Option Addr) (cx15 : Nat) (Ax21 : Option Addr) (cx21 : Nat) (Ay12 : Option Addr) (cy12 : Nat) (Ay13 : Option Addr) (cy13 : Nat) (Ay14 : Option Addr) (cy14 : Nat) (Ay15 : Option Addr) (cy15 : Nat) (Ay21 : Option Addr) (cy21 : Nat) (w : World) (hrx12 : Kd.C (Kd.int .u16) w Ax12 x.words.length x.words) (hcx12 : x.words.length ≤ cx12) (hrx13 : Kd.C Kd.bool w Ax13 x.bits.length x.bits) (hcx13 : x.bits.length ≤ cx13) (hrx14 : Kd.C (Kd.int .u8) w Ax14 x.data.length x.data) (hcx14 : x.data.length ≤ cx14) (hrx15 : Kd.C k50 w Ax15 x.recs.length x.recs) (hcx15 : x.recs.length ≤ cx15) (hrx21 : Kd.C k52 w Ax21 x.objects.length x.objects) (hcx21 : x.objects.length ≤ cx21) (hry12 : Kd.C (Kd.int .u16) w Ay12 y.words.length y.words) (hcy12 : y.words.length ≤ cy12) (hry13 : Kd.C Kd.bool w Ay13 y.bits.length y.bits) (hcy13 : y.bits.length ≤ cy13) (hry14 : Kd.C (Kd.int .u8) w Ay14 y.data.length y.data) (hcy14 : y.data.length ≤ cy14) (hry15 : Kd.C k50 w Ay15 y.recs.length y.recs) (hcy15 : y.recs.length ≤ cy15) (hry21 : Kd.C k52 w Ay21 y.objects.length y.objects) (hcy21 : y.objects.length ≤ cy21) (vx0 : 0 ≤ x.code ∧ x.code < 256) (vx1 : 0 ≤ x.fail ∧ x.fail < 256) (vx16 : 0 ≤ x.mei ∧ x.mei < 256) (vx17 : 0 ≤ x.kind ∧ x.kind < 256) (vx18 : 0 ≤ x.level ∧ x.level < 256) (vx19 : 0 ≤ x.more ∧ x.more < 256) (vx20 : 0 ≤ x.next ∧ x.next < 256) (vy0 : 0 ≤ y.code ∧ y.code < 256) (vy1 : 0 ≤ y.fail ∧ y.fail < 256) (vy16 : 0 ≤ y.mei ∧ y.mei < 256) (vy17 : 0 ≤ y.kind ∧ y.kind < 256) (vy18 : 0 ≤ y.level ∧ y.level < 256) (vy19 : 0 ≤ y.more ∧ y.more < 256) (vy20 : 0 ≤ y.next ∧ y.next < 256) (ox_ : ∀ q ∈ x.objects, q.f1.all u8B = true) (oy_ : ∀ q ∈ y.objects, q.f1.all u8B = true) (b0 : eqL [x.code, x.fail, x.addr, x.count, x.value, x.and_, x.or_, x.addr2, x.sub, x.status, x.events, x.messages, shB x.mei x.kind, shB x.level x.more, x.next] [y.code, y.fail, y.addr, y.count, y.value, y.and_, y.or_, y.addr2, y.sub, y.status, y.events, y.messages, shB y.mei y.kind, shB y.level y.more, y.next] = true) (k1 : Nat) (p1 : slices_Equal_uint16_uint16.f k1 x.words y.words = some true) (k2 : Nat) (p2 : slices_Equal_bool_bool.f k2 x.bits y.bits = some true) (b3 : ((strOfNums x.data).toList == (strOfNums y.data).toList) = true) (b4_ : listB recB x.recs y.recs = true) (b5_ : listB objB x.objects y.objects = false) :
    Calls Try.prog 24 #[.agg #[.int .u8 x.code, .int .u8 x.fail, .int .u16 x.addr, .int .u16 x.count, .int .u16 x.value, .int .u16 x.and_, .int .u16 x.or_, .int .u16 x.addr2, .int .u16 x.sub, .int .u16 x.status, .int .u16 x.events, .int .u16 x.messages, .slice Ax12 x.words.length cx12, .slice Ax13 x.bits.length cx13, .slice Ax14 x.data.length cx14, .slice Ax15 x.recs.length cx15, .int .u8 x.mei, .int .u8 x.kind, .int .u8 x.level, .int .u8 x.more, .int .u8 x.next, .slice Ax21 x.objects.length cx21], .agg #[.int .u8 y.code, .int .u8 y.fail, .int .u16 y.addr, .int .u16 y.count, .int .u16 y.value, .int .u16 y.and_, .int .u16 y.or_, .int .u16 y.addr2, .int .u16 y.sub, .int .u16 y.status, .int .u16 y.events, .int .u16 y.messages, .slice Ay12 y.words.length cy12, .slice Ay13 y.bits.length cy13, .slice Ay14 y.data.length cy14, .slice Ay15 y.recs.length cy15, .int .u8 y.mei, .int .u8 y.kind, .int .u8 y.level, .int .u8 y.more, .int .u8 y.next, .slice Ay21 y.objects.length cy21]] w fun e w' => e = .returned (.bool false) ∧ Below w.heap.size w w' := by
  have HRx12 := Aside0.mk hrx12
  have HRx13 := Aside0.mk hrx13
  have HRx14 := Aside0.mk hrx14
  have HRx15 := Aside0.mk hrx15
  have HRx21 := Aside0.mk hrx21
  have HRy12 := Aside0.mk hry12
  have HRy13 := Aside0.mk hry13
  have HRy14 := Aside0.mk hry14
  have HRy15 := Aside0.mk hry15
  have HRy21 := Aside0.mk hry21
  have ux0 := Aside0.mk vx0
  have ux1 := Aside0.mk vx1
  have ux16 := Aside0.mk vx16
  have ux17 := Aside0.mk vx17
  have ux18 := Aside0.mk vx18
  have ux19 := Aside0.mk vx19
  have ux20 := Aside0.mk vx20
  have uy0 := Aside0.mk vy0
  have uy1 := Aside0.mk vy1
  have uy16 := Aside0.mk vy16
  have uy17 := Aside0.mk vy17
  have uy18 := Aside0.mk vy18
  have uy19 := Aside0.mk vy19
  have uy20 := Aside0.mk vy20
  have ox := Aside0.mk ox_
  have oy := Aside0.mk oy_
  have P1 := Aside0.mk p1
  have P2 := Aside0.mk p2
  have b4 := Aside0.mk b4_
  have b5 := Aside0.mk b5_
  clear hrx12 hrx13 hrx14 hrx15 hrx21 hry12 hry13 hry14 hry15 hry21 vx0 vx1 vx16 vx17 vx18 vx19 vx20 vy0 vy1 vy16 vy17 vy18 vy19 vy20 ox_ oy_ p1 p2 b4_ b5_
  have hu1 := Try.underlying30
  go_enter Try.func24, Try.ntmps24
  go_wp2
  generalize Value.agg #[.int .u8 x.code, .int .u8 x.fail, .int .u16 x.addr, .int .u16 x.count, .int .u16 x.value, .int .u16 x.and_, .int .u16 x.or_, .int .u16 x.addr2, .int .u16 x.sub, .int .u16 x.status, .int .u16 x.events, .int .u16 x.messages, .slice Ax12 x.words.length cx12, .slice Ax13 x.bits.length cx13, .slice Ax14 x.data.length cx14, .slice Ax15 x.recs.length cx15, .int .u8 x.mei, .int .u8 x.kind, .int .u8 x.level, .int .u8 x.more, .int .u8 x.next, .slice Ax21 x.objects.length cx21] = g0
  generalize Value.agg #[.int .u8 y.code, .int .u8 y.fail, .int .u16 y.addr, .int .u16 y.count, .int .u16 y.value, .int .u16 y.and_, .int .u16 y.or_, .int .u16 y.addr2, .int .u16 y.sub, .int .u16 y.status, .int .u16 y.events, .int .u16 y.messages, .slice Ay12 y.words.length cy12, .slice Ay13 y.bits.length cy13, .slice Ay14 y.data.length cy14, .slice Ay15 y.recs.length cy15, .int .u8 y.mei, .int .u8 y.kind, .int .u8 y.level, .int .u8 y.more, .int .u8 y.next, .slice Ay21 y.objects.length cy21] = g1
  refine start_ (n := 43) (S := fun w' => w'.heap[w.heap.size]? = some (.cells (#[.int .u8 x.code, .int .u8 x.fail, .int .u16 x.addr, .int .u16 x.count, .int .u16 x.value, .int .u16 x.and_, .int .u16 x.or_, .int .u16 x.addr2, .int .u16 x.sub, .int .u16 x.status, .int .u16 x.events, .int .u16 x.messages, .slice Ax12 x.words.length cx12, .slice Ax13 x.bits.length cx13, .slice Ax14 x.data.length cx14, .slice Ax15 x.recs.length cx15, .int .u8 x.mei, .int .u8 x.kind, .int .u8 x.level, .int .u8 x.more, .int .u8 x.next, .slice Ax21 x.objects.length cx21] : Array Value) 30 (0, 0)) ∧ w'.heap[w.heap.size + 1]? = some (.cells (#[.int .u8 y.code, .int .u8 y.fail, .int .u16 y.addr, .int .u16 y.count, .int .u16 y.value, .int .u16 y.and_, .int .u16 y.or_, .int .u16 y.addr2, .int .u16 y.sub, .int .u16 y.status, .int .u16 y.events, .int .u16 y.messages, .slice Ay12 y.words.length cy12, .slice Ay13 y.bits.length cy13, .slice Ay14 y.data.length cy14, .slice Ay15 y.recs.length cy15, .int .u8 y.mei, .int .u8 y.kind, .int .u8 y.level, .int .u8 y.more, .int .u8 y.next, .slice Ay21 y.objects.length cy21] : Array Value) 30 (0, 0)) ∧ Aside0 (Below w.heap.size w w')) (ds := []) (bm 43 0) (by as_aux_lemma => kernel_rfl) rfl (by as_aux_lemma => kernel_rfl) ⟨(heap_x _ _ _ _), (heap_y _ _ _ _), (Aside0.mk (by repeat (first | exact Below.refl _ _ | (with_reducible first | apply below_alloc | apply pw_below_drewN | apply below_drew1))))⟩ (fun hHeld => ?_)
  generalize World.drew _ = wd at hHeld ⊢
  refine with_tabW same.tab1 same.bits1 (fun HT_ HW_ => ?_)
  refine take_ (i := 0) (N := some 5) (v := ?_) (a' := ?_) (bm 43 1) rfl rfl (take_ofW HT_.out HW_.out (by as_aux_lemma => kernel_rfl)) (fun _ _ _ h => h) (Or.inl ⟨by rfl, ?_⟩) hHeld ?_ ?_
  rotate_left
  · rintro w' ⟨s0, s1, s2⟩
    refine exec_load_row 30 (.tmp 2) ?ha_x (w.heap.size) ?hb_x _ _ _ _ s0 Try.underlying30 ?hc_x ?hd_x
    case ha_x => rfl
    case hb_x => rfl
    case hc_x => rfl
    exact (by as_aux_lemma => kernel_rfl)
  rotate_left
  · simp only [Act.put, List.setIfInBounds_toArray, List.set_cons_zero, List.set_cons_succ, i64_w, i32_w]
    rfl
  refine take_ (i := 2) (N := some 7) (v := ?_) (a' := ?_) (bm 43 5) rfl rfl (take_ofW HT_.out HW_.out (by as_aux_lemma => kernel_rfl)) (fun _ _ _ h => h) (Or.inl ⟨by rfl, ?_⟩) hHeld ?_ ?_
  rotate_left
  · rintro w' ⟨s0, s1, s2⟩
    refine exec_load_row 30 (.tmp 3) ?ha_y (w.heap.size + 1) ?hb_y _ _ _ _ s1 Try.underlying30 ?hc_y ?hd_y
    case ha_y => rfl
    case hb_y => rfl
    case hc_y => rfl
    exact (by as_aux_lemma => kernel_rfl)
  rotate_left
  · simp only [Act.put, List.setIfInBounds_toArray, List.set_cons_zero, List.set_cons_succ, i64_w, i32_w]
    rfl
  refine one_ (i := 1) (N := some 6) (bm 43 7) rfl rfl (one_of HT_.out (by as_aux_lemma => kernel_rfl)) (by as_aux_lemma => decide) (fun K hK => ?_)
  refine goes_ Try.func26 (by as_aux_lemma => kernel_rfl) rfl #[.agg #[.int .u8 x.code, .int .u8 x.fail, .int .u16 x.addr, .int .u16 x.count, .int .u16 x.value, .int .u16 x.and_, .int .u16 x.or_, .int .u16 x.addr2, .int .u16 x.sub, .int .u16 x.status, .int .u16 x.events, .int .u16 x.messages, .slice Ax12 x.words.length cx12, .slice Ax13 x.bits.length cx13, .slice Ax14 x.data.length cx14, .slice Ax15 x.recs.length cx15, .int .u8 x.mei, .int .u8 x.kind, .int .u8 x.level, .int .u8 x.more, .int .u8 x.next, .slice Ax21 x.objects.length cx21]] (by rfl) rfl rfl (by simp only [List.map_toArray, List.map_cons, List.map_nil]; rfl) ?_
  with_reducible refine (plain_any x Ax12 cx12 Ax13 cx13 Ax14 cx14 Ax15 cx15 Ax21 cx21 _ ux0.out.1 ux0.out.2 ux1.out.1 ux1.out.2 ux16.out.1 ux16.out.2 ux17.out.1 ux17.out.2 ux18.out.1 ux18.out.2 ux19.out.1 ux19.out.2 ux20.out.1 ux20.out.2).mono ?_
  rintro e wx1 ⟨rfl, hb⟩
  refine ⟨_, rfl, ?_⟩
  refine hK.out _ _ ⟨((hb.block _ (heap_lt' hHeld.1)).trans hHeld.1), ((hb.block _ (heap_lt' hHeld.2.1)).trans hHeld.2.1), (Aside0.mk (below_step hHeld.2.2.out hb))⟩ (fun hHeld => ?_)
  clear hK K
  refine norm_ (a' := ?_) ?_ ?_
  rotate_left
  · show Act.put _ (some 6) _ = _
    simp only [Act.put, List.setIfInBounds_toArray, List.set_cons_zero, List.set_cons_succ, i64_w, i32_w]
    rfl
  generalize Value.agg #[.int .u8 x.code, .int .u8 x.fail, .int .u16 x.addr, .int .u16 x.count, .int .u16 x.value, .int .u16 x.and_, .int .u16 x.or_, .int .u16 x.addr2, .int .u16 x.sub, .int .u16 x.status, .int .u16 x.events, .int .u16 x.messages, .slice Ax12 x.words.length cx12, .slice Ax13 x.bits.length cx13, .slice Ax14 x.data.length cx14, .slice Ax15 x.recs.length cx15, .int .u8 x.mei, .int .u8 x.kind, .int .u8 x.level, .int .u8 x.more, .int .u8 x.next, .slice Ax21 x.objects.length cx21] = g5
  refine one_ (i := 3) (N := some 8) (bm 43 15) rfl rfl (one_of HT_.out (by as_aux_lemma => kernel_rfl)) (by as_aux_lemma => decide) (fun K hK => ?_)
  refine goes_ Try.func26 (by as_aux_lemma => kernel_rfl) rfl #[.agg #[.int .u8 y.code, .int .u8 y.fail, .int .u16 y.addr, .int .u16 y.count, .int .u16 y.value, .int .u16 y.and_, .int .u16 y.or_, .int .u16 y.addr2, .int .u16 y.sub, .int .u16 y.status, .int .u16 y.events, .int .u16 y.messages, .slice Ay12 y.words.length cy12, .slice Ay13 y.bits.length cy13, .slice Ay14 y.data.length cy14, .slice Ay15 y.recs.length cy15, .int .u8 y.mei, .int .u8 y.kind, .int .u8 y.level, .int .u8 y.more, .int .u8 y.next, .slice Ay21 y.objects.length cy21]] (by rfl) rfl rfl (by simp only [List.map_toArray, List.map_cons, List.map_nil]; rfl) ?_
  with_reducible refine (plain_any y Ay12 cy12 Ay13 cy13 Ay14 cy14 Ay15 cy15 Ay21 cy21 _ uy0.out.1 uy0.out.2 uy1.out.1 uy1.out.2 uy16.out.1 uy16.out.2 uy17.out.1 uy17.out.2 uy18.out.1 uy18.out.2 uy19.out.1 uy19.out.2 uy20.out.1 uy20.out.2).mono ?_
  rintro e wy1 ⟨rfl, hb⟩
  refine ⟨_, rfl, ?_⟩
  refine hK.out _ _ ⟨((hb.block _ (heap_lt' hHeld.1)).trans hHeld.1), ((hb.block _ (heap_lt' hHeld.2.1)).trans hHeld.2.1), (Aside0.mk (below_step hHeld.2.2.out hb))⟩ (fun hHeld => ?_)
  clear hK K
  refine norm_ (a' := ?_) ?_ ?_
  rotate_left
  · show Act.put _ (some 8) _ = _
    simp only [Act.put, List.setIfInBounds_toArray, List.set_cons_zero, List.set_cons_succ, i64_w, i32_w]
    rfl
  generalize Value.agg #[.int .u8 y.code, .int .u8 y.fail, .int .u16 y.addr, .int .u16 y.count, .int .u16 y.value, .int .u16 y.and_, .int .u16 y.or_, .int .u16 y.addr2, .int .u16 y.sub, .int .u16 y.status, .int .u16 y.events, .int .u16 y.messages, .slice Ay12 y.words.length cy12, .slice Ay13 y.bits.length cy13, .slice Ay14 y.data.length cy14, .slice Ay15 y.recs.length cy15, .int .u8 y.mei, .int .u8 y.kind, .int .u8 y.level, .int .u8 y.more, .int .u8 y.next, .slice Ay21 y.objects.length cy21] = g7
  refine pure_ (i := 4) (N := some 9) (v := ?_) (a' := ?_) (bm 43 31) rfl rfl (any_of HT_.out (by as_aux_lemma => kernel_rfl)) (fun _ _ _ h => h) (Or.inl ⟨by rfl, ?_⟩) ?_ ?_
  rotate_left
  · intro w'
    go_simp
    with_reducible rfl
  rotate_left
  · simp only [Act.put, List.setIfInBounds_toArray, List.set_cons_zero, List.set_cons_succ, i64_w, i32_w]
    rfl
  generalize Value.agg #[.int .u16 x.code, .int .u16 x.fail, .int .u16 x.addr, .int .u16 x.count, .int .u16 x.value, .int .u16 x.and_, .int .u16 x.or_, .int .u16 x.addr2, .int .u16 x.sub, .int .u16 x.status, .int .u16 x.events, .int .u16 x.messages, .int .u16 (shB x.mei x.kind), .int .u16 (shB x.level x.more), .int .u16 x.next] = g6
  generalize Value.agg #[.int .u16 y.code, .int .u16 y.fail, .int .u16 y.addr, .int .u16 y.count, .int .u16 y.value, .int .u16 y.and_, .int .u16 y.or_, .int .u16 y.addr2, .int .u16 y.sub, .int .u16 y.status, .int .u16 y.events, .int .u16 y.messages, .int .u16 (shB y.mei y.kind), .int .u16 (shB y.level y.more), .int .u16 y.next] = g8
  refine pure_ (i := 5) (N := some 10) (v := ?_) (a' := ?_) (bm 43 63) rfl rfl (any_of HT_.out (by as_aux_lemma => kernel_rfl)) (fun _ _ _ h => h) (Or.inl ⟨by rfl, ?_⟩) ?_ ?_
  rotate_left
  · intro w'
    go_simp
    with_reducible rfl
  rotate_left
  · simp only [Act.put, List.setIfInBounds_toArray, List.set_cons_zero, List.set_cons_succ, i64_w, i32_w]
    rfl
  refine pure_ (i := 6) (N := some 11) (v := ?_) (a' := ?_) (bm 43 127) rfl rfl (any_of HT_.out (by as_aux_lemma => kernel_rfl)) (fun _ _ _ h => h) (Or.inl ⟨by rfl, ?_⟩) ?_ ?_
  rotate_left
  · intro w'
    go_simp
    with_reducible rfl
  rotate_left
  · simp only [Act.put, List.setIfInBounds_toArray, List.set_cons_zero, List.set_cons_succ, i64_w, i32_w]
    rfl
  refine pure_ (i := 8) (N := some 13) (v := ?_) (a' := ?_) (bm 43 383) rfl rfl (any_of HT_.out (by as_aux_lemma => kernel_rfl)) (fun _ _ _ h => h) (Or.inl ⟨by rfl, ?_⟩) ?_ ?_
  rotate_left
  · intro w'
    go_simp
    with_reducible rfl
  rotate_left
  · simp only [Act.put, List.setIfInBounds_toArray, List.set_cons_zero, List.set_cons_succ, i64_w, i32_w]
    rfl
  refine take_ (i := 7) (N := some 12) (v := ?_) (a' := ?_) (bm 43 511) rfl rfl (take_ofW HT_.out HW_.out (by as_aux_lemma => kernel_rfl)) (fun _ _ _ h => h) (Or.inl ⟨by rfl, ?_⟩) hHeld ?_ ?_
  rotate_left
  · rintro w' ⟨s0, s1, s2⟩
    have hq : w'.cell? ⟨w.heap.size, 12, none⟩ = some (.slice Ax12 x.words.length cx12) := cell_of_row w' _ 12 _ _ _ s0
    clear s0 s1 s2
    go_simp
    with_reducible rfl
  rotate_left
  · simp only [Act.put, List.setIfInBounds_toArray, List.set_cons_zero, List.set_cons_succ, i64_w, i32_w]
    rfl
  refine take_ (i := 9) (N := some 14) (v := ?_) (a' := ?_) (bm 43 1023) rfl rfl (take_ofW HT_.out HW_.out (by as_aux_lemma => kernel_rfl)) (fun _ _ _ h => h) (Or.inl ⟨by rfl, ?_⟩) hHeld ?_ ?_
  rotate_left
  · rintro w' ⟨s0, s1, s2⟩
    have hq : w'.cell? ⟨w.heap.size + 1, 12, none⟩ = some (.slice Ay12 y.words.length cy12) := cell_of_row w' _ 12 _ _ _ s1
    clear s0 s1 s2
    go_simp
    with_reducible rfl
  rotate_left
  · simp only [Act.put, List.setIfInBounds_toArray, List.set_cons_zero, List.set_cons_succ, i64_w, i32_w]
    rfl
  refine one_ (i := 10) (N := some 15) (bm 43 2047) rfl rfl (one_of HT_.out (by as_aux_lemma => kernel_rfl)) (by as_aux_lemma => decide) (fun K hK => ?_)
  refine goes_ Try.func27 (by as_aux_lemma => kernel_rfl) rfl #[.slice Ax12 x.words.length cx12, .slice Ay12 y.words.length cy12] (by rfl) rfl rfl (by simp only [List.map_toArray, List.map_cons, List.map_nil]; rfl) ?_
  with_reducible refine (slices_Equal_uint16_uint16.calls k1 _ _ x.words _ _ y.words true _ (Kd.C_below HRx12.out hHeld.2.2.out) hcx12 (Kd.C_below HRy12.out hHeld.2.2.out) hcy12 P1.out).mono ?_
  rintro e w2 ⟨rfl, ⟨nd1, rfl⟩⟩
  refine ⟨_, rfl, ?_⟩
  refine hK.out _ _ ⟨hHeld.1, hHeld.2.1, (Aside0.mk (pw_below_drewN hHeld.2.2.out _))⟩ (fun hHeld => ?_)
  clear hK K
  refine norm_ (a' := ?_) ?_ ?_
  rotate_left
  · show Act.put _ (some 15) _ = _
    simp only [Act.put, List.setIfInBounds_toArray, List.set_cons_zero, List.set_cons_succ, i64_w, i32_w]
    rfl
  refine pure_ (i := 11) (N := some 16) (v := ?_) (a' := ?_) (bm 43 4095) rfl rfl (any_of HT_.out (by as_aux_lemma => kernel_rfl)) (fun _ _ _ h => h) (Or.inl ⟨by rfl, ?_⟩) ?_ ?_
  rotate_left
  · intro w'
    go_simp
    with_reducible rfl
  rotate_left
  · simp only [Act.put, List.setIfInBounds_toArray, List.set_cons_zero, List.set_cons_succ, i64_w, i32_w]
    rfl
  refine pure_ (i := 12) (N := some 17) (v := ?_) (a' := ?_) (bm 43 8191) rfl rfl (any_of HT_.out (by as_aux_lemma => kernel_rfl)) (fun _ _ _ h => h) (Or.inl ⟨by rfl, ?_⟩) ?_ ?_
  rotate_left
  · intro w'
    go_simp
    with_reducible rfl
  rotate_left
  · simp only [Act.put, List.setIfInBounds_toArray, List.set_cons_zero, List.set_cons_succ, i64_w, i32_w]
    rfl
  refine pure_ (i := 13) (N := some 18) (v := ?_) (a' := ?_) (bm 43 16383) rfl rfl (any_of HT_.out (by as_aux_lemma => kernel_rfl)) (fun _ _ _ h => h) (Or.inl ⟨by rfl, ?_⟩) ?_ ?_
  rotate_left
  · intro w'
    go_simp
    with_reducible rfl
  rotate_left
  · simp only [Act.put, List.setIfInBounds_toArray, List.set_cons_zero, List.set_cons_succ, i64_w, i32_w]
    rfl
  refine pure_ (i := 15) (N := some 20) (v := ?_) (a' := ?_) (bm 43 49151) rfl rfl (any_of HT_.out (by as_aux_lemma => kernel_rfl)) (fun _ _ _ h => h) (Or.inl ⟨by rfl, ?_⟩) ?_ ?_
  rotate_left
  · intro w'
    go_simp
    with_reducible rfl
  rotate_left
  · simp only [Act.put, List.setIfInBounds_toArray, List.set_cons_zero, List.set_cons_succ, i64_w, i32_w]
    rfl
  refine take_ (i := 14) (N := some 19) (v := ?_) (a' := ?_) (bm 43 65535) rfl rfl (take_ofW HT_.out HW_.out (by as_aux_lemma => kernel_rfl)) (fun _ _ _ h => h) (Or.inl ⟨by rfl, ?_⟩) hHeld ?_ ?_
  rotate_left
  · rintro w' ⟨s0, s1, s2⟩
    have hq : w'.cell? ⟨w.heap.size, 13, none⟩ = some (.slice Ax13 x.bits.length cx13) := cell_of_row w' _ 13 _ _ _ s0
    clear s0 s1 s2
    go_simp
    with_reducible rfl
  rotate_left
  · simp only [Act.put, List.setIfInBounds_toArray, List.set_cons_zero, List.set_cons_succ, i64_w, i32_w]
    rfl
  refine take_ (i := 16) (N := some 21) (v := ?_) (a' := ?_) (bm 43 131071) rfl rfl (take_ofW HT_.out HW_.out (by as_aux_lemma => kernel_rfl)) (fun _ _ _ h => h) (Or.inl ⟨by rfl, ?_⟩) hHeld ?_ ?_
  rotate_left
  · rintro w' ⟨s0, s1, s2⟩
    have hq : w'.cell? ⟨w.heap.size + 1, 13, none⟩ = some (.slice Ay13 y.bits.length cy13) := cell_of_row w' _ 13 _ _ _ s1
    clear s0 s1 s2
    go_simp
    with_reducible rfl
  rotate_left
  · simp only [Act.put, List.setIfInBounds_toArray, List.set_cons_zero, List.set_cons_succ, i64_w, i32_w]
    rfl
  refine one_ (i := 17) (N := some 22) (bm 43 262143) rfl rfl (one_of HT_.out (by as_aux_lemma => kernel_rfl)) (by as_aux_lemma => decide) (fun K hK => ?_)
  refine goes_ Try.func28 (by as_aux_lemma => kernel_rfl) rfl #[.slice Ax13 x.bits.length cx13, .slice Ay13 y.bits.length cy13] (by rfl) rfl rfl (by simp only [List.map_toArray, List.map_cons, List.map_nil]; rfl) ?_
  with_reducible refine (slices_Equal_bool_bool.calls k2 _ _ x.bits _ _ y.bits true _ (Kd.C_below HRx13.out hHeld.2.2.out) hcx13 (Kd.C_below HRy13.out hHeld.2.2.out) hcy13 P2.out).mono ?_
  rintro e w3 ⟨rfl, ⟨nd2, rfl⟩⟩
  refine ⟨_, rfl, ?_⟩
  refine hK.out _ _ ⟨hHeld.1, hHeld.2.1, (Aside0.mk (pw_below_drewN hHeld.2.2.out _))⟩ (fun hHeld => ?_)
  clear hK K
  refine norm_ (a' := ?_) ?_ ?_
  rotate_left
  · show Act.put _ (some 22) _ = _
    simp only [Act.put, List.setIfInBounds_toArray, List.set_cons_zero, List.set_cons_succ, i64_w, i32_w]
    rfl
  refine pure_ (i := 18) (N := some 23) (v := ?_) (a' := ?_) (bm 43 524287) rfl rfl (any_of HT_.out (by as_aux_lemma => kernel_rfl)) (fun _ _ _ h => h) (Or.inl ⟨by rfl, ?_⟩) ?_ ?_
  rotate_left
  · intro w'
    go_simp
    with_reducible rfl
  rotate_left
  · simp only [Act.put, List.setIfInBounds_toArray, List.set_cons_zero, List.set_cons_succ, i64_w, i32_w]
    rfl
  refine pure_ (i := 19) (N := some 24) (v := ?_) (a' := ?_) (bm 43 1048575) rfl rfl (any_of HT_.out (by as_aux_lemma => kernel_rfl)) (fun _ _ _ h => h) (Or.inl ⟨by rfl, ?_⟩) ?_ ?_
  rotate_left
  · intro w'
    go_simp
    with_reducible rfl
  rotate_left
  · simp only [Act.put, List.setIfInBounds_toArray, List.set_cons_zero, List.set_cons_succ, i64_w, i32_w]
    rfl
  refine pure_ (i := 20) (N := some 25) (v := ?_) (a' := ?_) (bm 43 2097151) rfl rfl (any_of HT_.out (by as_aux_lemma => kernel_rfl)) (fun _ _ _ h => h) (Or.inl ⟨by rfl, ?_⟩) ?_ ?_
  rotate_left
  · intro w'
    go_simp
    with_reducible rfl
  rotate_left
  · simp only [Act.put, List.setIfInBounds_toArray, List.set_cons_zero, List.set_cons_succ, i64_w, i32_w]
    rfl
  refine pure_ (i := 23) (N := some 28) (v := ?_) (a' := ?_) (bm 43 10485759) rfl rfl (any_of HT_.out (by as_aux_lemma => kernel_rfl)) (fun _ _ _ h => h) (Or.inl ⟨by rfl, ?_⟩) ?_ ?_
  rotate_left
  · intro w'
    go_simp
    with_reducible rfl
  rotate_left
  · simp only [Act.put, List.setIfInBounds_toArray, List.set_cons_zero, List.set_cons_succ, i64_w, i32_w]
    rfl
  refine take_ (i := 21) (N := some 26) (v := ?_) (a' := ?_) (bm 43 12582911) rfl rfl (take_ofW HT_.out HW_.out (by as_aux_lemma => kernel_rfl)) (fun _ _ _ h => h) (Or.inl ⟨by rfl, ?_⟩) hHeld ?_ ?_
  rotate_left
  · rintro w' ⟨s0, s1, s2⟩
    have hq : w'.cell? ⟨w.heap.size, 14, none⟩ = some (.slice Ax14 x.data.length cx14) := cell_of_row w' _ 14 _ _ _ s0
    clear s0 s1 s2
    go_simp
    with_reducible rfl
  rotate_left
  · simp only [Act.put, List.setIfInBounds_toArray, List.set_cons_zero, List.set_cons_succ, i64_w, i32_w]
    rfl
  refine take_ (i := 22) (N := some 27) (v := ?_) (a' := ?_) (bm 43 16777215) rfl rfl (take_ofW HT_.out HW_.out (by as_aux_lemma => kernel_rfl)) (fun _ _ _ h => h) (Or.inl ⟨by rfl, ?_⟩) hHeld ?_ ?_
  rotate_left
  · rintro w' ⟨s0, s1, s2⟩
    have hcv := Kd.C_string (P := Try.prog) (A := Ax14) (c := cx14) Try.underlying22 Try.underlying5 Try.underlying9 (Kd.C_below HRx14.out s2.out)
    go_simp
    with_reducible rfl
  rotate_left
  · simp only [Act.put, List.setIfInBounds_toArray, List.set_cons_zero, List.set_cons_succ, i64_w, i32_w]
    rfl
  refine take_ (i := 24) (N := some 29) (v := ?_) (a' := ?_) (bm 43 33554431) rfl rfl (take_ofW HT_.out HW_.out (by as_aux_lemma => kernel_rfl)) (fun _ _ _ h => h) (Or.inl ⟨by rfl, ?_⟩) hHeld ?_ ?_
  rotate_left
  · rintro w' ⟨s0, s1, s2⟩
    have hq : w'.cell? ⟨w.heap.size + 1, 14, none⟩ = some (.slice Ay14 y.data.length cy14) := cell_of_row w' _ 14 _ _ _ s1
    clear s0 s1 s2
    go_simp
    with_reducible rfl
  rotate_left
  · simp only [Act.put, List.setIfInBounds_toArray, List.set_cons_zero, List.set_cons_succ, i64_w, i32_w]
    rfl
  refine take_ (i := 25) (N := some 30) (v := ?_) (a' := ?_) (bm 43 67108863) rfl rfl (take_ofW HT_.out HW_.out (by as_aux_lemma => kernel_rfl)) (fun _ _ _ h => h) (Or.inl ⟨by rfl, ?_⟩) hHeld ?_ ?_
  rotate_left
  · rintro w' ⟨s0, s1, s2⟩
    have hcv := Kd.C_string (P := Try.prog) (A := Ay14) (c := cy14) Try.underlying22 Try.underlying5 Try.underlying9 (Kd.C_below HRy14.out s2.out)
    go_simp
    with_reducible rfl
  rotate_left
  · simp only [Act.put, List.setIfInBounds_toArray, List.set_cons_zero, List.set_cons_succ, i64_w, i32_w]
    rfl
  refine pure_ (i := 26) (N := some 31) (v := ?_) (a' := ?_) (bm 43 134217727) rfl rfl (any_of HT_.out (by as_aux_lemma => kernel_rfl)) (fun _ _ _ h => h) (Or.inl ⟨by rfl, ?_⟩) ?_ ?_
  rotate_left
  · intro w'
    go_simp
    with_reducible rfl
  rotate_left
  · simp only [Act.put, List.setIfInBounds_toArray, List.set_cons_zero, List.set_cons_succ, i64_w, i32_w]
    rfl
  refine pure_ (i := 27) (N := some 32) (v := ?_) (a' := ?_) (bm 43 268435455) rfl rfl (any_of HT_.out (by as_aux_lemma => kernel_rfl)) (fun _ _ _ h => h) (Or.inl ⟨by rfl, ?_⟩) ?_ ?_
  rotate_left
  · intro w'
    go_simp
    with_reducible rfl
  rotate_left
  · simp only [Act.put, List.setIfInBounds_toArray, List.set_cons_zero, List.set_cons_succ, i64_w, i32_w]
    rfl
  refine pure_ (i := 28) (N := some 33) (v := ?_) (a' := ?_) (bm 43 536870911) rfl rfl (any_of HT_.out (by as_aux_lemma => kernel_rfl)) (fun _ _ _ h => h) (Or.inl ⟨by rfl, ?_⟩) ?_ ?_
  rotate_left
  · intro w'
    go_simp
    with_reducible rfl
  rotate_left
  · simp only [Act.put, List.setIfInBounds_toArray, List.set_cons_zero, List.set_cons_succ, i64_w, i32_w]
    rfl
  refine pure_ (i := 29) (N := some 34) (v := ?_) (a' := ?_) (bm 43 1073741823) rfl rfl (any_of HT_.out (by as_aux_lemma => kernel_rfl)) (fun _ _ _ h => h) (Or.inl ⟨by rfl, ?_⟩) ?_ ?_
  rotate_left
  · intro w'
    go_simp
    with_reducible rfl
  rotate_left
  · simp only [Act.put, List.setIfInBounds_toArray, List.set_cons_zero, List.set_cons_succ, i64_w, i32_w]
    rfl
  refine pure_ (i := 31) (N := some 36) (v := ?_) (a' := ?_) (bm 43 3221225471) rfl rfl (any_of HT_.out (by as_aux_lemma => kernel_rfl)) (fun _ _ _ h => h) (Or.inl ⟨by rfl, ?_⟩) ?_ ?_
  rotate_left
  · intro w'
    go_simp
    with_reducible rfl
  rotate_left
  · simp only [Act.put, List.setIfInBounds_toArray, List.set_cons_zero, List.set_cons_succ, i64_w, i32_w]
    rfl
  refine take_ (i := 30) (N := some 35) (v := ?_) (a' := ?_) (bm 43 4294967295) rfl rfl (take_ofW HT_.out HW_.out (by as_aux_lemma => kernel_rfl)) (fun _ _ _ h => h) (Or.inl ⟨by rfl, ?_⟩) hHeld ?_ ?_
  rotate_left
  · rintro w' ⟨s0, s1, s2⟩
    have hq : w'.cell? ⟨w.heap.size, 15, none⟩ = some (.slice Ax15 x.recs.length cx15) := cell_of_row w' _ 15 _ _ _ s0
    clear s0 s1 s2
    go_simp
    with_reducible rfl
  rotate_left
  · simp only [Act.put, List.setIfInBounds_toArray, List.set_cons_zero, List.set_cons_succ, i64_w, i32_w]
    rfl
  refine take_ (i := 32) (N := some 37) (v := ?_) (a' := ?_) (bm 43 8589934591) rfl rfl (take_ofW HT_.out HW_.out (by as_aux_lemma => kernel_rfl)) (fun _ _ _ h => h) (Or.inl ⟨by rfl, ?_⟩) hHeld ?_ ?_
  rotate_left
  · rintro w' ⟨s0, s1, s2⟩
    have hq : w'.cell? ⟨w.heap.size + 1, 15, none⟩ = some (.slice Ay15 y.recs.length cy15) := cell_of_row w' _ 15 _ _ _ s1
    clear s0 s1 s2
    go_simp
    with_reducible rfl
  rotate_left
  · simp only [Act.put, List.setIfInBounds_toArray, List.set_cons_zero, List.set_cons_succ, i64_w, i32_w]
    rfl
  refine one_ (i := 33) (N := some 38) (bm 43 17179869183) rfl rfl (one_of HT_.out (by as_aux_lemma => kernel_rfl)) (by as_aux_lemma => decide) (fun K hK => ?_)
  refine goes_ Try.func29 (by as_aux_lemma => kernel_rfl) rfl #[.slice Ax15 x.recs.length cx15, .slice Ay15 y.recs.length cy15, .func (.func 30) #[] #[]] (by rfl) rfl rfl (by simp only [List.map_toArray, List.map_cons, List.map_nil]; rfl) ?_
  with_reducible refine (recs_any _ _ _ _ x.recs y.recs _ (Kd.C_below HRx15.out hHeld.2.2.out) (Kd.C_below HRy15.out hHeld.2.2.out)).mono ?_
  rintro e w4 ⟨rfl, hb⟩
  refine ⟨_, rfl, ?_⟩
  rw [b4.out]
  refine hK.out _ _ ⟨((hb.block _ (heap_lt' hHeld.1)).trans hHeld.1), ((hb.block _ (heap_lt' hHeld.2.1)).trans hHeld.2.1), (Aside0.mk (below_step hHeld.2.2.out hb))⟩ (fun hHeld => ?_)
  clear hK K
  refine norm_ (a' := ?_) ?_ ?_
  rotate_left
  · show Act.put _ (some 38) _ = _
    simp only [Act.put, List.setIfInBounds_toArray, List.set_cons_zero, List.set_cons_succ, i64_w, i32_w]
    rfl
  refine pure_ (i := 34) (N := some 39) (v := ?_) (a' := ?_) (bm 43 34359738367) rfl rfl (any_of HT_.out (by as_aux_lemma => kernel_rfl)) (fun _ _ _ h => h) (Or.inl ⟨by rfl, ?_⟩) ?_ ?_
  rotate_left
  · intro w'
    go_simp
    with_reducible rfl
  rotate_left
  · simp only [Act.put, List.setIfInBounds_toArray, List.set_cons_zero, List.set_cons_succ, i64_w, i32_w]
    rfl
  refine pure_ (i := 35) (N := some 40) (v := ?_) (a' := ?_) (bm 43 68719476735) rfl rfl (any_of HT_.out (by as_aux_lemma => kernel_rfl)) (fun _ _ _ h => h) (Or.inl ⟨by rfl, ?_⟩) ?_ ?_
  rotate_left
  · intro w'
    go_simp
    with_reducible rfl
  rotate_left
  · simp only [Act.put, List.setIfInBounds_toArray, List.set_cons_zero, List.set_cons_succ, i64_w, i32_w]
    rfl
  refine pure_ (i := 36) (N := some 41) (v := ?_) (a' := ?_) (bm 43 137438953471) rfl rfl (any_of HT_.out (by as_aux_lemma => kernel_rfl)) (fun _ _ _ h => h) (Or.inl ⟨by rfl, ?_⟩) ?_ ?_
  rotate_left
  · intro w'
    go_simp
    with_reducible rfl
  rotate_left
  · simp only [Act.put, List.setIfInBounds_toArray, List.set_cons_zero, List.set_cons_succ, i64_w, i32_w]
    rfl
  refine pure_ (i := 38) (N := some 43) (v := ?_) (a' := ?_) (bm 43 412316860415) rfl rfl (any_of HT_.out (by as_aux_lemma => kernel_rfl)) (fun _ _ _ h => h) (Or.inl ⟨by rfl, ?_⟩) ?_ ?_
  rotate_left
  · intro w'
    go_simp
    with_reducible rfl
  rotate_left
  · simp only [Act.put, List.setIfInBounds_toArray, List.set_cons_zero, List.set_cons_succ, i64_w, i32_w]
    rfl
  refine take_ (i := 37) (N := some 42) (v := ?_) (a' := ?_) (bm 43 549755813887) rfl rfl (take_ofW HT_.out HW_.out (by as_aux_lemma => kernel_rfl)) (fun _ _ _ h => h) (Or.inl ⟨by rfl, ?_⟩) hHeld ?_ ?_
  rotate_left
  · rintro w' ⟨s0, s1, s2⟩
    have hq : w'.cell? ⟨w.heap.size, 21, none⟩ = some (.slice Ax21 x.objects.length cx21) := cell_of_row w' _ 21 _ _ _ s0
    clear s0 s1 s2
    go_simp
    with_reducible rfl
  rotate_left
  · simp only [Act.put, List.setIfInBounds_toArray, List.set_cons_zero, List.set_cons_succ, i64_w, i32_w]
    rfl
  refine take_ (i := 39) (N := some 44) (v := ?_) (a' := ?_) (bm 43 1099511627775) rfl rfl (take_ofW HT_.out HW_.out (by as_aux_lemma => kernel_rfl)) (fun _ _ _ h => h) (Or.inl ⟨by rfl, ?_⟩) hHeld ?_ ?_
  rotate_left
  · rintro w' ⟨s0, s1, s2⟩
    have hq : w'.cell? ⟨w.heap.size + 1, 21, none⟩ = some (.slice Ay21 y.objects.length cy21) := cell_of_row w' _ 21 _ _ _ s1
    clear s0 s1 s2
    go_simp
    with_reducible rfl
  rotate_left
  · simp only [Act.put, List.setIfInBounds_toArray, List.set_cons_zero, List.set_cons_succ, i64_w, i32_w]
    rfl
  refine one_ (i := 40) (N := some 45) (bm 43 2199023255551) rfl rfl (one_of HT_.out (by as_aux_lemma => kernel_rfl)) (by as_aux_lemma => decide) (fun K hK => ?_)
  refine goes_ Try.func31 (by as_aux_lemma => kernel_rfl) rfl #[.slice Ax21 x.objects.length cx21, .slice Ay21 y.objects.length cy21, .func (.func 32) #[] #[]] (by rfl) rfl rfl (by simp only [List.map_toArray, List.map_cons, List.map_nil]; rfl) ?_
  with_reducible refine (objs_any _ _ _ _ x.objects y.objects _ (Kd.C_below HRx21.out hHeld.2.2.out) (Kd.C_below HRy21.out hHeld.2.2.out) ox.out oy.out).mono ?_
  rintro e w5 ⟨rfl, hb⟩
  refine ⟨_, rfl, ?_⟩
  rw [b5.out]
  refine hK.out _ _ ⟨((hb.block _ (heap_lt' hHeld.1)).trans hHeld.1), ((hb.block _ (heap_lt' hHeld.2.1)).trans hHeld.2.1), (Aside0.mk (below_step hHeld.2.2.out hb))⟩ (fun hHeld => ?_)
  clear hK K
  refine norm_ (a' := ?_) ?_ ?_
  rotate_left
  · show Act.put _ (some 45) _ = _
    simp only [Act.put, List.setIfInBounds_toArray, List.set_cons_zero, List.set_cons_succ, i64_w, i32_w]
    rfl
  refine pure_ (i := 41) (N := some 46) (v := ?_) (a' := ?_) (bm 43 4398046511103) rfl rfl (any_of HT_.out (by as_aux_lemma => kernel_rfl)) (fun _ _ _ h => h) (Or.inl ⟨by rfl, ?_⟩) ?_ ?_
  rotate_left
  · intro w'
    go_simp
    with_reducible rfl
  rotate_left
  · simp only [Act.put, List.setIfInBounds_toArray, List.set_cons_zero, List.set_cons_succ, i64_w, i32_w]
    rfl
  refine pure_ (i := 42) (N := some 4) (v := ?_) (a' := ?_) (bm 43 8796093022207) rfl rfl (any_of HT_.out (by as_aux_lemma => kernel_rfl)) (fun _ _ _ h => h) (Or.inl ⟨by rfl, ?_⟩) ?_ ?_
  rotate_left
  · intro w'
    go_simp
    with_reducible rfl
  rotate_left
  · simp only [Act.put, List.setIfInBounds_toArray, List.set_cons_zero, List.set_cons_succ, i64_w, i32_w]
    rfl
  refine done_ (done_of HT_.out (by as_aux_lemma => kernel_rfl)) ?_

  go_wp2
  go_ret
  exact ⟨rfl, hHeld.2.2.out⟩

set_option maxHeartbeats 8000000 in
set_option maxRecDepth 100000 in
theorem same_6 (x y : Msg) (Ax12 : Option Addr) (cx12 : Nat) (Ax13 : Option Addr) (cx13 : Nat) (Ax14 : Option Addr) (cx14 : Nat) (Ax15 : Option Addr) (cx15 : Nat) (Ax21 : Option Addr) (cx21 : Nat) (Ay12 : Option Addr) (cy12 : Nat) (Ay13 : Option Addr) (cy13 : Nat) (Ay14 : Option Addr) (cy14 : Nat) (Ay15 : Option Addr) (cy15 : Nat) (Ay21 : Option Addr) (cy21 : Nat) (w : World) (hrx12 : Kd.C (Kd.int .u16) w Ax12 x.words.length x.words) (hcx12 : x.words.length ≤ cx12) (hrx13 : Kd.C Kd.bool w Ax13 x.bits.length x.bits) (hcx13 : x.bits.length ≤ cx13) (hrx14 : Kd.C (Kd.int .u8) w Ax14 x.data.length x.data) (hcx14 : x.data.length ≤ cx14) (hrx15 : Kd.C k50 w Ax15 x.recs.length x.recs) (hcx15 : x.recs.length ≤ cx15) (hrx21 : Kd.C k52 w Ax21 x.objects.length x.objects) (hcx21 : x.objects.length ≤ cx21) (hry12 : Kd.C (Kd.int .u16) w Ay12 y.words.length y.words) (hcy12 : y.words.length ≤ cy12) (hry13 : Kd.C Kd.bool w Ay13 y.bits.length y.bits) (hcy13 : y.bits.length ≤ cy13) (hry14 : Kd.C (Kd.int .u8) w Ay14 y.data.length y.data) (hcy14 : y.data.length ≤ cy14) (hry15 : Kd.C k50 w Ay15 y.recs.length y.recs) (hcy15 : y.recs.length ≤ cy15) (hry21 : Kd.C k52 w Ay21 y.objects.length y.objects) (hcy21 : y.objects.length ≤ cy21) (vx0 : 0 ≤ x.code ∧ x.code < 256) (vx1 : 0 ≤ x.fail ∧ x.fail < 256) (vx16 : 0 ≤ x.mei ∧ x.mei < 256) (vx17 : 0 ≤ x.kind ∧ x.kind < 256) (vx18 : 0 ≤ x.level ∧ x.level < 256) (vx19 : 0 ≤ x.more ∧ x.more < 256) (vx20 : 0 ≤ x.next ∧ x.next < 256) (vy0 : 0 ≤ y.code ∧ y.code < 256) (vy1 : 0 ≤ y.fail ∧ y.fail < 256) (vy16 : 0 ≤ y.mei ∧ y.mei < 256) (vy17 : 0 ≤ y.kind ∧ y.kind < 256) (vy18 : 0 ≤ y.level ∧ y.level < 256) (vy19 : 0 ≤ y.more ∧ y.more < 256) (vy20 : 0 ≤ y.next ∧ y.next < 256) (ox_ : ∀ q ∈ x.objects, q.f1.all u8B = true) (oy_ : ∀ q ∈ y.objects, q.f1.all u8B = true) (b0 : eqL [x.code, x.fail, x.addr, x.count, x.value, x.and_, x.or_, x.addr2, x.sub, x.status, x.events, x.messages, shB x.mei x.kind, shB x.level x.more, x.next] [y.code, y.fail, y.addr, y.count, y.value, y.and_, y.or_, y.addr2, y.sub, y.status, y.events, y.messages, shB y.mei y.kind, shB y.level y.more, y.next] = true) (k1 : Nat) (p1 : slices_Equal_uint16_uint16.f k1 x.words y.words = some true) (k2 : Nat) (p2 : slices_Equal_bool_bool.f k2 x.bits y.bits = some true) (b3 : ((strOfNums x.data).toList == (strOfNums y.data).toList) = true) (b4_ : listB recB x.recs y.recs = true) (b5_ : listB objB x.objects y.objects = true) :
    Calls Try.prog 24 #[.agg #[.int .u8 x.code, .int .u8 x.fail, .int .u16 x.addr, .int .u16 x.count, .int .u16 x.value, .int .u16 x.and_, .int .u16 x.or_, .int .u16 x.addr2, .int .u16 x.sub, .int .u16 x.status, .int .u16 x.events, .int .u16 x.messages, .slice Ax12 x.words.length cx12, .slice Ax13 x.bits.length cx13, .slice Ax14 x.data.length cx14, .slice Ax15 x.recs.length cx15, .int .u8 x.mei, .int .u8 x.kind, .int .u8 x.level, .int .u8 x.more, .int .u8 x.next, .slice Ax21 x.objects.length cx21], .agg #[.int .u8 y.code, .int .u8 y.fail, .int .u16 y.addr, .int .u16 y.count, .int .u16 y.value, .int .u16 y.and_, .int .u16 y.or_, .int .u16 y.addr2, .int .u16 y.sub, .int .u16 y.status, .int .u16 y.events, .int .u16 y.messages, .slice Ay12 y.words.length cy12, .slice Ay13 y.bits.length cy13, .slice Ay14 y.data.length cy14, .slice Ay15 y.recs.length cy15, .int .u8 y.mei, .int .u8 y.kind, .int .u8 y.level, .int .u8 y.more, .int .u8 y.next, .slice Ay21 y.objects.length cy21]] w fun e w' => e = .returned (.bool true) ∧ Below w.heap.size w w' := by
  have HRx12 := Aside0.mk hrx12
  have HRx13 := Aside0.mk hrx13
  have HRx14 := Aside0.mk hrx14
  have HRx15 := Aside0.mk hrx15
  have HRx21 := Aside0.mk hrx21
  have HRy12 := Aside0.mk hry12
  have HRy13 := Aside0.mk hry13
  have HRy14 := Aside0.mk hry14
  have HRy15 := Aside0.mk hry15
  have HRy21 := Aside0.mk hry21
  have ux0 := Aside0.mk vx0
  have ux1 := Aside0.mk vx1
  have ux16 := Aside0.mk vx16
  have ux17 := Aside0.mk vx17
  have ux18 := Aside0.mk vx18
  have ux19 := Aside0.mk vx19
  have ux20 := Aside0.mk vx20
  have uy0 := Aside0.mk vy0
  have uy1 := Aside0.mk vy1
  have uy16 := Aside0.mk vy16
  have uy17 := Aside0.mk vy17
  have uy18 := Aside0.mk vy18
  have uy19 := Aside0.mk vy19
  have uy20 := Aside0.mk vy20
  have ox := Aside0.mk ox_
  have oy := Aside0.mk oy_
  have P1 := Aside0.mk p1
  have P2 := Aside0.mk p2
  have b4 := Aside0.mk b4_
  have b5 := Aside0.mk b5_
  clear hrx12 hrx13 hrx14 hrx15 hrx21 hry12 hry13 hry14 hry15 hry21 vx0 vx1 vx16 vx17 vx18 vx19 vx20 vy0 vy1 vy16 vy17 vy18 vy19 vy20 ox_ oy_ p1 p2 b4_ b5_
  have hu1 := Try.underlying30
  go_enter Try.func24, Try.ntmps24
  go_wp2
  generalize Value.agg #[.int .u8 x.code, .int .u8 x.fail, .int .u16 x.addr, .int .u16 x.count, .int .u16 x.value, .int .u16 x.and_, .int .u16 x.or_, .int .u16 x.addr2, .int .u16 x.sub, .int .u16 x.status, .int .u16 x.events, .int .u16 x.messages, .slice Ax12 x.words.length cx12, .slice Ax13 x.bits.length cx13, .slice Ax14 x.data.length cx14, .slice Ax15 x.recs.length cx15, .int .u8 x.mei, .int .u8 x.kind, .int .u8 x.level, .int .u8 x.more, .int .u8 x.next, .slice Ax21 x.objects.length cx21] = g0
  generalize Value.agg #[.int .u8 y.code, .int .u8 y.fail, .int .u16 y.addr, .int .u16 y.count, .int .u16 y.value, .int .u16 y.and_, .int .u16 y.or_, .int .u16 y.addr2, .int .u16 y.sub, .int .u16 y.status, .int .u16 y.events, .int .u16 y.messages, .slice Ay12 y.words.length cy12, .slice Ay13 y.bits.length cy13, .slice Ay14 y.data.length cy14, .slice Ay15 y.recs.length cy15, .int .u8 y.mei, .int .u8 y.kind, .int .u8 y.level, .int .u8 y.more, .int .u8 y.next, .slice Ay21 y.objects.length cy21] = g1
  refine start_ (n := 43) (S := fun w' => w'.heap[w.heap.size]? = some (.cells (#[.int .u8 x.code, .int .u8 x.fail, .int .u16 x.addr, .int .u16 x.count, .int .u16 x.value, .int .u16 x.and_, .int .u16 x.or_, .int .u16 x.addr2, .int .u16 x.sub, .int .u16 x.status, .int .u16 x.events, .int .u16 x.messages, .slice Ax12 x.words.length cx12, .slice Ax13 x.bits.length cx13, .slice Ax14 x.data.length cx14, .slice Ax15 x.recs.length cx15, .int .u8 x.mei, .int .u8 x.kind, .int .u8 x.level, .int .u8 x.more, .int .u8 x.next, .slice Ax21 x.objects.length cx21] : Array Value) 30 (0, 0)) ∧ w'.heap[w.heap.size + 1]? = some (.cells (#[.int .u8 y.code, .int .u8 y.fail, .int .u16 y.addr, .int .u16 y.count, .int .u16 y.value, .int .u16 y.and_, .int .u16 y.or_, .int .u16 y.addr2, .int .u16 y.sub, .int .u16 y.status, .int .u16 y.events, .int .u16 y.messages, .slice Ay12 y.words.length cy12, .slice Ay13 y.bits.length cy13, .slice Ay14 y.data.length cy14, .slice Ay15 y.recs.length cy15, .int .u8 y.mei, .int .u8 y.kind, .int .u8 y.level, .int .u8 y.more, .int .u8 y.next, .slice Ay21 y.objects.length cy21] : Array Value) 30 (0, 0)) ∧ Aside0 (Below w.heap.size w w')) (ds := []) (bm 43 0) (by as_aux_lemma => kernel_rfl) rfl (by as_aux_lemma => kernel_rfl) ⟨(heap_x _ _ _ _), (heap_y _ _ _ _), (Aside0.mk (by repeat (first | exact Below.refl _ _ | (with_reducible first | apply below_alloc | apply pw_below_drewN | apply below_drew1))))⟩ (fun hHeld => ?_)
  generalize World.drew _ = wd at hHeld ⊢
  refine with_tabW same.tab1 same.bits1 (fun HT_ HW_ => ?_)
  refine take_ (i := 0) (N := some 5) (v := ?_) (a' := ?_) (bm 43 1) rfl rfl (take_ofW HT_.out HW_.out (by as_aux_lemma => kernel_rfl)) (fun _ _ _ h => h) (Or.inl ⟨by rfl, ?_⟩) hHeld ?_ ?_
  rotate_left
  · rintro w' ⟨s0, s1, s2⟩
    refine exec_load_row 30 (.tmp 2) ?ha_x (w.heap.size) ?hb_x _ _ _ _ s0 Try.underlying30 ?hc_x ?hd_x
    case ha_x => rfl
    case hb_x => rfl
    case hc_x => rfl
    exact (by as_aux_lemma => kernel_rfl)
  rotate_left
  · simp only [Act.put, List.setIfInBounds_toArray, List.set_cons_zero, List.set_cons_succ, i64_w, i32_w]
    rfl
  refine take_ (i := 2) (N := some 7) (v := ?_) (a' := ?_) (bm 43 5) rfl rfl (take_ofW HT_.out HW_.out (by as_aux_lemma => kernel_rfl)) (fun _ _ _ h => h) (Or.inl ⟨by rfl, ?_⟩) hHeld ?_ ?_
  rotate_left
  · rintro w' ⟨s0, s1, s2⟩
    refine exec_load_row 30 (.tmp 3) ?ha_y (w.heap.size + 1) ?hb_y _ _ _ _ s1 Try.underlying30 ?hc_y ?hd_y
    case ha_y => rfl
    case hb_y => rfl
    case hc_y => rfl
    exact (by as_aux_lemma => kernel_rfl)
  rotate_left
  · simp only [Act.put, List.setIfInBounds_toArray, List.set_cons_zero, List.set_cons_succ, i64_w, i32_w]
    rfl
  refine one_ (i := 1) (N := some 6) (bm 43 7) rfl rfl (one_of HT_.out (by as_aux_lemma => kernel_rfl)) (by as_aux_lemma => decide) (fun K hK => ?_)
  refine goes_ Try.func26 (by as_aux_lemma => kernel_rfl) rfl #[.agg #[.int .u8 x.code, .int .u8 x.fail, .int .u16 x.addr, .int .u16 x.count, .int .u16 x.value, .int .u16 x.and_, .int .u16 x.or_, .int .u16 x.addr2, .int .u16 x.sub, .int .u16 x.status, .int .u16 x.events, .int .u16 x.messages, .slice Ax12 x.words.length cx12, .slice Ax13 x.bits.length cx13, .slice Ax14 x.data.length cx14, .slice Ax15 x.recs.length cx15, .int .u8 x.mei, .int .u8 x.kind, .int .u8 x.level, .int .u8 x.more, .int .u8 x.next, .slice Ax21 x.objects.length cx21]] (by rfl) rfl rfl (by simp only [List.map_toArray, List.map_cons, List.map_nil]; rfl) ?_
  with_reducible refine (plain_any x Ax12 cx12 Ax13 cx13 Ax14 cx14 Ax15 cx15 Ax21 cx21 _ ux0.out.1 ux0.out.2 ux1.out.1 ux1.out.2 ux16.out.1 ux16.out.2 ux17.out.1 ux17.out.2 ux18.out.1 ux18.out.2 ux19.out.1 ux19.out.2 ux20.out.1 ux20.out.2).mono ?_
  rintro e wx1 ⟨rfl, hb⟩
  refine ⟨_, rfl, ?_⟩
  refine hK.out _ _ ⟨((hb.block _ (heap_lt' hHeld.1)).trans hHeld.1), ((hb.block _ (heap_lt' hHeld.2.1)).trans hHeld.2.1), (Aside0.mk (below_step hHeld.2.2.out hb))⟩ (fun hHeld => ?_)
  clear hK K
  refine norm_ (a' := ?_) ?_ ?_
  rotate_left
  · show Act.put _ (some 6) _ = _
    simp only [Act.put, List.setIfInBounds_toArray, List.set_cons_zero, List.set_cons_succ, i64_w, i32_w]
    rfl
  generalize Value.agg #[.int .u8 x.code, .int .u8 x.fail, .int .u16 x.addr, .int .u16 x.count, .int .u16 x.value, .int .u16 x.and_, .int .u16 x.or_, .int .u16 x.addr2, .int .u16 x.sub, .int .u16 x.status, .int .u16 x.events, .int .u16 x.messages, .slice Ax12 x.words.length cx12, .slice Ax13 x.bits.length cx13, .slice Ax14 x.data.length cx14, .slice Ax15 x.recs.length cx15, .int .u8 x.mei, .int .u8 x.kind, .int .u8 x.level, .int .u8 x.more, .int .u8 x.next, .slice Ax21 x.objects.length cx21] = g5
  refine one_ (i := 3) (N := some 8) (bm 43 15) rfl rfl (one_of HT_.out (by as_aux_lemma => kernel_rfl)) (by as_aux_lemma => decide) (fun K hK => ?_)
  refine goes_ Try.func26 (by as_aux_lemma => kernel_rfl) rfl #[.agg #[.int .u8 y.code, .int .u8 y.fail, .int .u16 y.addr, .int .u16 y.count, .int .u16 y.value, .int .u16 y.and_, .int .u16 y.or_, .int .u16 y.addr2, .int .u16 y.sub, .int .u16 y.status, .int .u16 y.events, .int .u16 y.messages, .slice Ay12 y.words.length cy12, .slice Ay13 y.bits.length cy13, .slice Ay14 y.data.length cy14, .slice Ay15 y.recs.length cy15, .int .u8 y.mei, .int .u8 y.kind, .int .u8 y.level, .int .u8 y.more, .int .u8 y.next, .slice Ay21 y.objects.length cy21]] (by rfl) rfl rfl (by simp only [List.map_toArray, List.map_cons, List.map_nil]; rfl) ?_
  with_reducible refine (plain_any y Ay12 cy12 Ay13 cy13 Ay14 cy14 Ay15 cy15 Ay21 cy21 _ uy0.out.1 uy0.out.2 uy1.out.1 uy1.out.2 uy16.out.1 uy16.out.2 uy17.out.1 uy17.out.2 uy18.out.1 uy18.out.2 uy19.out.1 uy19.out.2 uy20.out.1 uy20.out.2).mono ?_
  rintro e wy1 ⟨rfl, hb⟩
  refine ⟨_, rfl, ?_⟩
  refine hK.out _ _ ⟨((hb.block _ (heap_lt' hHeld.1)).trans hHeld.1), ((hb.block _ (heap_lt' hHeld.2.1)).trans hHeld.2.1), (Aside0.mk (below_step hHeld.2.2.out hb))⟩ (fun hHeld => ?_)
  clear hK K
  refine norm_ (a' := ?_) ?_ ?_
  rotate_left
  · show Act.put _ (some 8) _ = _
    simp only [Act.put, List.setIfInBounds_toArray, List.set_cons_zero, List.set_cons_succ, i64_w, i32_w]
    rfl
  generalize Value.agg #[.int .u8 y.code, .int .u8 y.fail, .int .u16 y.addr, .int .u16 y.count, .int .u16 y.value, .int .u16 y.and_, .int .u16 y.or_, .int .u16 y.addr2, .int .u16 y.sub, .int .u16 y.status, .int .u16 y.events, .int .u16 y.messages, .slice Ay12 y.words.length cy12, .slice Ay13 y.bits.length cy13, .slice Ay14 y.data.length cy14, .slice Ay15 y.recs.length cy15, .int .u8 y.mei, .int .u8 y.kind, .int .u8 y.level, .int .u8 y.more, .int .u8 y.next, .slice Ay21 y.objects.length cy21] = g7
  refine pure_ (i := 4) (N := some 9) (v := ?_) (a' := ?_) (bm 43 31) rfl rfl (any_of HT_.out (by as_aux_lemma => kernel_rfl)) (fun _ _ _ h => h) (Or.inl ⟨by rfl, ?_⟩) ?_ ?_
  rotate_left
  · intro w'
    go_simp
    with_reducible rfl
  rotate_left
  · simp only [Act.put, List.setIfInBounds_toArray, List.set_cons_zero, List.set_cons_succ, i64_w, i32_w]
    rfl
  generalize Value.agg #[.int .u16 x.code, .int .u16 x.fail, .int .u16 x.addr, .int .u16 x.count, .int .u16 x.value, .int .u16 x.and_, .int .u16 x.or_, .int .u16 x.addr2, .int .u16 x.sub, .int .u16 x.status, .int .u16 x.events, .int .u16 x.messages, .int .u16 (shB x.mei x.kind), .int .u16 (shB x.level x.more), .int .u16 x.next] = g6
  generalize Value.agg #[.int .u16 y.code, .int .u16 y.fail, .int .u16 y.addr, .int .u16 y.count, .int .u16 y.value, .int .u16 y.and_, .int .u16 y.or_, .int .u16 y.addr2, .int .u16 y.sub, .int .u16 y.status, .int .u16 y.events, .int .u16 y.messages, .int .u16 (shB y.mei y.kind), .int .u16 (shB y.level y.more), .int .u16 y.next] = g8
  refine pure_ (i := 5) (N := some 10) (v := ?_) (a' := ?_) (bm 43 63) rfl rfl (any_of HT_.out (by as_aux_lemma => kernel_rfl)) (fun _ _ _ h => h) (Or.inl ⟨by rfl, ?_⟩) ?_ ?_
  rotate_left
  · intro w'
    go_simp
    with_reducible rfl
  rotate_left
  · simp only [Act.put, List.setIfInBounds_toArray, List.set_cons_zero, List.set_cons_succ, i64_w, i32_w]
    rfl
  refine pure_ (i := 6) (N := some 11) (v := ?_) (a' := ?_) (bm 43 127) rfl rfl (any_of HT_.out (by as_aux_lemma => kernel_rfl)) (fun _ _ _ h => h) (Or.inl ⟨by rfl, ?_⟩) ?_ ?_
  rotate_left
  · intro w'
    go_simp
    with_reducible rfl
  rotate_left
  · simp only [Act.put, List.setIfInBounds_toArray, List.set_cons_zero, List.set_cons_succ, i64_w, i32_w]
    rfl
  refine pure_ (i := 8) (N := some 13) (v := ?_) (a' := ?_) (bm 43 383) rfl rfl (any_of HT_.out (by as_aux_lemma => kernel_rfl)) (fun _ _ _ h => h) (Or.inl ⟨by rfl, ?_⟩) ?_ ?_
  rotate_left
  · intro w'
    go_simp
    with_reducible rfl
  rotate_left
  · simp only [Act.put, List.setIfInBounds_toArray, List.set_cons_zero, List.set_cons_succ, i64_w, i32_w]
    rfl
  refine take_ (i := 7) (N := some 12) (v := ?_) (a' := ?_) (bm 43 511) rfl rfl (take_ofW HT_.out HW_.out (by as_aux_lemma => kernel_rfl)) (fun _ _ _ h => h) (Or.inl ⟨by rfl, ?_⟩) hHeld ?_ ?_
  rotate_left
  · rintro w' ⟨s0, s1, s2⟩
    have hq : w'.cell? ⟨w.heap.size, 12, none⟩ = some (.slice Ax12 x.words.length cx12) := cell_of_row w' _ 12 _ _ _ s0
    clear s0 s1 s2
    go_simp
    with_reducible rfl
  rotate_left
  · simp only [Act.put, List.setIfInBounds_toArray, List.set_cons_zero, List.set_cons_succ, i64_w, i32_w]
    rfl
  refine take_ (i := 9) (N := some 14) (v := ?_) (a' := ?_) (bm 43 1023) rfl rfl (take_ofW HT_.out HW_.out (by as_aux_lemma => kernel_rfl)) (fun _ _ _ h => h) (Or.inl ⟨by rfl, ?_⟩) hHeld ?_ ?_
  rotate_left
  · rintro w' ⟨s0, s1, s2⟩
    have hq : w'.cell? ⟨w.heap.size + 1, 12, none⟩ = some (.slice Ay12 y.words.length cy12) := cell_of_row w' _ 12 _ _ _ s1
    clear s0 s1 s2
    go_simp
    with_reducible rfl
  rotate_left
  · simp only [Act.put, List.setIfInBounds_toArray, List.set_cons_zero, List.set_cons_succ, i64_w, i32_w]
    rfl
  refine one_ (i := 10) (N := some 15) (bm 43 2047) rfl rfl (one_of HT_.out (by as_aux_lemma => kernel_rfl)) (by as_aux_lemma => decide) (fun K hK => ?_)
  refine goes_ Try.func27 (by as_aux_lemma => kernel_rfl) rfl #[.slice Ax12 x.words.length cx12, .slice Ay12 y.words.length cy12] (by rfl) rfl rfl (by simp only [List.map_toArray, List.map_cons, List.map_nil]; rfl) ?_
  with_reducible refine (slices_Equal_uint16_uint16.calls k1 _ _ x.words _ _ y.words true _ (Kd.C_below HRx12.out hHeld.2.2.out) hcx12 (Kd.C_below HRy12.out hHeld.2.2.out) hcy12 P1.out).mono ?_
  rintro e w2 ⟨rfl, ⟨nd1, rfl⟩⟩
  refine ⟨_, rfl, ?_⟩
  refine hK.out _ _ ⟨hHeld.1, hHeld.2.1, (Aside0.mk (pw_below_drewN hHeld.2.2.out _))⟩ (fun hHeld => ?_)
  clear hK K
  refine norm_ (a' := ?_) ?_ ?_
  rotate_left
  · show Act.put _ (some 15) _ = _
    simp only [Act.put, List.setIfInBounds_toArray, List.set_cons_zero, List.set_cons_succ, i64_w, i32_w]
    rfl
  refine pure_ (i := 11) (N := some 16) (v := ?_) (a' := ?_) (bm 43 4095) rfl rfl (any_of HT_.out (by as_aux_lemma => kernel_rfl)) (fun _ _ _ h => h) (Or.inl ⟨by rfl, ?_⟩) ?_ ?_
  rotate_left
  · intro w'
    go_simp
    with_reducible rfl
  rotate_left
  · simp only [Act.put, List.setIfInBounds_toArray, List.set_cons_zero, List.set_cons_succ, i64_w, i32_w]
    rfl
  refine pure_ (i := 12) (N := some 17) (v := ?_) (a' := ?_) (bm 43 8191) rfl rfl (any_of HT_.out (by as_aux_lemma => kernel_rfl)) (fun _ _ _ h => h) (Or.inl ⟨by rfl, ?_⟩) ?_ ?_
  rotate_left
  · intro w'
    go_simp
    with_reducible rfl
  rotate_left
  · simp only [Act.put, List.setIfInBounds_toArray, List.set_cons_zero, List.set_cons_succ, i64_w, i32_w]
    rfl
  refine pure_ (i := 13) (N := some 18) (v := ?_) (a' := ?_) (bm 43 16383) rfl rfl (any_of HT_.out (by as_aux_lemma => kernel_rfl)) (fun _ _ _ h => h) (Or.inl ⟨by rfl, ?_⟩) ?_ ?_
  rotate_left
  · intro w'
    go_simp
    with_reducible rfl
  rotate_left
  · simp only [Act.put, List.setIfInBounds_toArray, List.set_cons_zero, List.set_cons_succ, i64_w, i32_w]
    rfl
  refine pure_ (i := 15) (N := some 20) (v := ?_) (a' := ?_) (bm 43 49151) rfl rfl (any_of HT_.out (by as_aux_lemma => kernel_rfl)) (fun _ _ _ h => h) (Or.inl ⟨by rfl, ?_⟩) ?_ ?_
  rotate_left
  · intro w'
    go_simp
    with_reducible rfl
  rotate_left
  · simp only [Act.put, List.setIfInBounds_toArray, List.set_cons_zero, List.set_cons_succ, i64_w, i32_w]
    rfl
  refine take_ (i := 14) (N := some 19) (v := ?_) (a' := ?_) (bm 43 65535) rfl rfl (take_ofW HT_.out HW_.out (by as_aux_lemma => kernel_rfl)) (fun _ _ _ h => h) (Or.inl ⟨by rfl, ?_⟩) hHeld ?_ ?_
  rotate_left
  · rintro w' ⟨s0, s1, s2⟩
    have hq : w'.cell? ⟨w.heap.size, 13, none⟩ = some (.slice Ax13 x.bits.length cx13) := cell_of_row w' _ 13 _ _ _ s0
    clear s0 s1 s2
    go_simp
    with_reducible rfl
  rotate_left
  · simp only [Act.put, List.setIfInBounds_toArray, List.set_cons_zero, List.set_cons_succ, i64_w, i32_w]
    rfl
  refine take_ (i := 16) (N := some 21) (v := ?_) (a' := ?_) (bm 43 131071) rfl rfl (take_ofW HT_.out HW_.out (by as_aux_lemma => kernel_rfl)) (fun _ _ _ h => h) (Or.inl ⟨by rfl, ?_⟩) hHeld ?_ ?_
  rotate_left
  · rintro w' ⟨s0, s1, s2⟩
    have hq : w'.cell? ⟨w.heap.size + 1, 13, none⟩ = some (.slice Ay13 y.bits.length cy13) := cell_of_row w' _ 13 _ _ _ s1
    clear s0 s1 s2
    go_simp
    with_reducible rfl
  rotate_left
  · simp only [Act.put, List.setIfInBounds_toArray, List.set_cons_zero, List.set_cons_succ, i64_w, i32_w]
    rfl
  refine one_ (i := 17) (N := some 22) (bm 43 262143) rfl rfl (one_of HT_.out (by as_aux_lemma => kernel_rfl)) (by as_aux_lemma => decide) (fun K hK => ?_)
  refine goes_ Try.func28 (by as_aux_lemma => kernel_rfl) rfl #[.slice Ax13 x.bits.length cx13, .slice Ay13 y.bits.length cy13] (by rfl) rfl rfl (by simp only [List.map_toArray, List.map_cons, List.map_nil]; rfl) ?_
  with_reducible refine (slices_Equal_bool_bool.calls k2 _ _ x.bits _ _ y.bits true _ (Kd.C_below HRx13.out hHeld.2.2.out) hcx13 (Kd.C_below HRy13.out hHeld.2.2.out) hcy13 P2.out).mono ?_
  rintro e w3 ⟨rfl, ⟨nd2, rfl⟩⟩
  refine ⟨_, rfl, ?_⟩
  refine hK.out _ _ ⟨hHeld.1, hHeld.2.1, (Aside0.mk (pw_below_drewN hHeld.2.2.out _))⟩ (fun hHeld => ?_)
  clear hK K
  refine norm_ (a' := ?_) ?_ ?_
  rotate_left
  · show Act.put _ (some 22) _ = _
    simp only [Act.put, List.setIfInBounds_toArray, List.set_cons_zero, List.set_cons_succ, i64_w, i32_w]
    rfl
  refine pure_ (i := 18) (N := some 23) (v := ?_) (a' := ?_) (bm 43 524287) rfl rfl (any_of HT_.out (by as_aux_lemma => kernel_rfl)) (fun _ _ _ h => h) (Or.inl ⟨by rfl, ?_⟩) ?_ ?_
  rotate_left
  · intro w'
    go_simp
    with_reducible rfl
  rotate_left
  · simp only [Act.put, List.setIfInBounds_toArray, List.set_cons_zero, List.set_cons_succ, i64_w, i32_w]
    rfl
  refine pure_ (i := 19) (N := some 24) (v := ?_) (a' := ?_) (bm 43 1048575) rfl rfl (any_of HT_.out (by as_aux_lemma => kernel_rfl)) (fun _ _ _ h => h) (Or.inl ⟨by rfl, ?_⟩) ?_ ?_
  rotate_left
  · intro w'
    go_simp
    with_reducible rfl
  rotate_left
  · simp only [Act.put, List.setIfInBounds_toArray, List.set_cons_zero, List.set_cons_succ, i64_w, i32_w]
    rfl
  refine pure_ (i := 20) (N := some 25) (v := ?_) (a' := ?_) (bm 43 2097151) rfl rfl (any_of HT_.out (by as_aux_lemma => kernel_rfl)) (fun _ _ _ h => h) (Or.inl ⟨by rfl, ?_⟩) ?_ ?_
  rotate_left
  · intro w'
    go_simp
    with_reducible rfl
  rotate_left
  · simp only [Act.put, List.setIfInBounds_toArray, List.set_cons_zero, List.set_cons_succ, i64_w, i32_w]
    rfl
  refine pure_ (i := 23) (N := some 28) (v := ?_) (a' := ?_) (bm 43 10485759) rfl rfl (any_of HT_.out (by as_aux_lemma => kernel_rfl)) (fun _ _ _ h => h) (Or.inl ⟨by rfl, ?_⟩) ?_ ?_
  rotate_left
  · intro w'
    go_simp
    with_reducible rfl
  rotate_left
  · simp only [Act.put, List.setIfInBounds_toArray, List.set_cons_zero, List.set_cons_succ, i64_w, i32_w]
    rfl
  refine take_ (i := 21) (N := some 26) (v := ?_) (a' := ?_) (bm 43 12582911) rfl rfl (take_ofW HT_.out HW_.out (by as_aux_lemma => kernel_rfl)) (fun _ _ _ h => h) (Or.inl ⟨by rfl, ?_⟩) hHeld ?_ ?_
  rotate_left
  · rintro w' ⟨s0, s1, s2⟩
    have hq : w'.cell? ⟨w.heap.size, 14, none⟩ = some (.slice Ax14 x.data.length cx14) := cell_of_row w' _ 14 _ _ _ s0
    clear s0 s1 s2
    go_simp
    with_reducible rfl
  rotate_left
  · simp only [Act.put, List.setIfInBounds_toArray, List.set_cons_zero, List.set_cons_succ, i64_w, i32_w]
    rfl
  refine take_ (i := 22) (N := some 27) (v := ?_) (a' := ?_) (bm 43 16777215) rfl rfl (take_ofW HT_.out HW_.out (by as_aux_lemma => kernel_rfl)) (fun _ _ _ h => h) (Or.inl ⟨by rfl, ?_⟩) hHeld ?_ ?_
  rotate_left
  · rintro w' ⟨s0, s1, s2⟩
    have hcv := Kd.C_string (P := Try.prog) (A := Ax14) (c := cx14) Try.underlying22 Try.underlying5 Try.underlying9 (Kd.C_below HRx14.out s2.out)
    go_simp
    with_reducible rfl
  rotate_left
  · simp only [Act.put, List.setIfInBounds_toArray, List.set_cons_zero, List.set_cons_succ, i64_w, i32_w]
    rfl
  refine take_ (i := 24) (N := some 29) (v := ?_) (a' := ?_) (bm 43 33554431) rfl rfl (take_ofW HT_.out HW_.out (by as_aux_lemma => kernel_rfl)) (fun _ _ _ h => h) (Or.inl ⟨by rfl, ?_⟩) hHeld ?_ ?_
  rotate_left
  · rintro w' ⟨s0, s1, s2⟩
    have hq : w'.cell? ⟨w.heap.size + 1, 14, none⟩ = some (.slice Ay14 y.data.length cy14) := cell_of_row w' _ 14 _ _ _ s1
    clear s0 s1 s2
    go_simp
    with_reducible rfl
  rotate_left
  · simp only [Act.put, List.setIfInBounds_toArray, List.set_cons_zero, List.set_cons_succ, i64_w, i32_w]
    rfl
  refine take_ (i := 25) (N := some 30) (v := ?_) (a' := ?_) (bm 43 67108863) rfl rfl (take_ofW HT_.out HW_.out (by as_aux_lemma => kernel_rfl)) (fun _ _ _ h => h) (Or.inl ⟨by rfl, ?_⟩) hHeld ?_ ?_
  rotate_left
  · rintro w' ⟨s0, s1, s2⟩
    have hcv := Kd.C_string (P := Try.prog) (A := Ay14) (c := cy14) Try.underlying22 Try.underlying5 Try.underlying9 (Kd.C_below HRy14.out s2.out)
    go_simp
    with_reducible rfl
  rotate_left
  · simp only [Act.put, List.setIfInBounds_toArray, List.set_cons_zero, List.set_cons_succ, i64_w, i32_w]
    rfl
  refine pure_ (i := 26) (N := some 31) (v := ?_) (a' := ?_) (bm 43 134217727) rfl rfl (any_of HT_.out (by as_aux_lemma => kernel_rfl)) (fun _ _ _ h => h) (Or.inl ⟨by rfl, ?_⟩) ?_ ?_
  rotate_left
  · intro w'
    go_simp
    with_reducible rfl
  rotate_left
  · simp only [Act.put, List.setIfInBounds_toArray, List.set_cons_zero, List.set_cons_succ, i64_w, i32_w]
    rfl
  refine pure_ (i := 27) (N := some 32) (v := ?_) (a' := ?_) (bm 43 268435455) rfl rfl (any_of HT_.out (by as_aux_lemma => kernel_rfl)) (fun _ _ _ h => h) (Or.inl ⟨by rfl, ?_⟩) ?_ ?_
  rotate_left
  · intro w'
    go_simp
    with_reducible rfl
  rotate_left
  · simp only [Act.put, List.setIfInBounds_toArray, List.set_cons_zero, List.set_cons_succ, i64_w, i32_w]
    rfl
  refine pure_ (i := 28) (N := some 33) (v := ?_) (a' := ?_) (bm 43 536870911) rfl rfl (any_of HT_.out (by as_aux_lemma => kernel_rfl)) (fun _ _ _ h => h) (Or.inl ⟨by rfl, ?_⟩) ?_ ?_
  rotate_left
  · intro w'
    go_simp
    with_reducible rfl
  rotate_left
  · simp only [Act.put, List.setIfInBounds_toArray, List.set_cons_zero, List.set_cons_succ, i64_w, i32_w]
    rfl
  refine pure_ (i := 29) (N := some 34) (v := ?_) (a' := ?_) (bm 43 1073741823) rfl rfl (any_of HT_.out (by as_aux_lemma => kernel_rfl)) (fun _ _ _ h => h) (Or.inl ⟨by rfl, ?_⟩) ?_ ?_
  rotate_left
  · intro w'
    go_simp
    with_reducible rfl
  rotate_left
  · simp only [Act.put, List.setIfInBounds_toArray, List.set_cons_zero, List.set_cons_succ, i64_w, i32_w]
    rfl
  refine pure_ (i := 31) (N := some 36) (v := ?_) (a' := ?_) (bm 43 3221225471) rfl rfl (any_of HT_.out (by as_aux_lemma => kernel_rfl)) (fun _ _ _ h => h) (Or.inl ⟨by rfl, ?_⟩) ?_ ?_
  rotate_left
  · intro w'
    go_simp
    with_reducible rfl
  rotate_left
  · simp only [Act.put, List.setIfInBounds_toArray, List.set_cons_zero, List.set_cons_succ, i64_w, i32_w]
    rfl
  refine take_ (i := 30) (N := some 35) (v := ?_) (a' := ?_) (bm 43 4294967295) rfl rfl (take_ofW HT_.out HW_.out (by as_aux_lemma => kernel_rfl)) (fun _ _ _ h => h) (Or.inl ⟨by rfl, ?_⟩) hHeld ?_ ?_
  rotate_left
  · rintro w' ⟨s0, s1, s2⟩
    have hq : w'.cell? ⟨w.heap.size, 15, none⟩ = some (.slice Ax15 x.recs.length cx15) := cell_of_row w' _ 15 _ _ _ s0
    clear s0 s1 s2
    go_simp
    with_reducible rfl
  rotate_left
  · simp only [Act.put, List.setIfInBounds_toArray, List.set_cons_zero, List.set_cons_succ, i64_w, i32_w]
    rfl
  refine take_ (i := 32) (N := some 37) (v := ?_) (a' := ?_) (bm 43 8589934591) rfl rfl (take_ofW HT_.out HW_.out (by as_aux_lemma => kernel_rfl)) (fun _ _ _ h => h) (Or.inl ⟨by rfl, ?_⟩) hHeld ?_ ?_
  rotate_left
  · rintro w' ⟨s0, s1, s2⟩
    have hq : w'.cell? ⟨w.heap.size + 1, 15, none⟩ = some (.slice Ay15 y.recs.length cy15) := cell_of_row w' _ 15 _ _ _ s1
    clear s0 s1 s2
    go_simp
    with_reducible rfl
  rotate_left
  · simp only [Act.put, List.setIfInBounds_toArray, List.set_cons_zero, List.set_cons_succ, i64_w, i32_w]
    rfl
  refine one_ (i := 33) (N := some 38) (bm 43 17179869183) rfl rfl (one_of HT_.out (by as_aux_lemma => kernel_rfl)) (by as_aux_lemma => decide) (fun K hK => ?_)
  refine goes_ Try.func29 (by as_aux_lemma => kernel_rfl) rfl #[.slice Ax15 x.recs.length cx15, .slice Ay15 y.recs.length cy15, .func (.func 30) #[] #[]] (by rfl) rfl rfl (by simp only [List.map_toArray, List.map_cons, List.map_nil]; rfl) ?_
  with_reducible refine (recs_any _ _ _ _ x.recs y.recs _ (Kd.C_below HRx15.out hHeld.2.2.out) (Kd.C_below HRy15.out hHeld.2.2.out)).mono ?_
  rintro e w4 ⟨rfl, hb⟩
  refine ⟨_, rfl, ?_⟩
  rw [b4.out]
  refine hK.out _ _ ⟨((hb.block _ (heap_lt' hHeld.1)).trans hHeld.1), ((hb.block _ (heap_lt' hHeld.2.1)).trans hHeld.2.1), (Aside0.mk (below_step hHeld.2.2.out hb))⟩ (fun hHeld => ?_)
  clear hK K
  refine norm_ (a' := ?_) ?_ ?_
  rotate_left
  · show Act.put _ (some 38) _ = _
    simp only [Act.put, List.setIfInBounds_toArray, List.set_cons_zero, List.set_cons_succ, i64_w, i32_w]
    rfl
  refine pure_ (i := 34) (N := some 39) (v := ?_) (a' := ?_) (bm 43 34359738367) rfl rfl (any_of HT_.out (by as_aux_lemma => kernel_rfl)) (fun _ _ _ h => h) (Or.inl ⟨by rfl, ?_⟩) ?_ ?_
  rotate_left
  · intro w'
    go_simp
    with_reducible rfl
  rotate_left
  · simp only [Act.put, List.setIfInBounds_toArray, List.set_cons_zero, List.set_cons_succ, i64_w, i32_w]
    rfl
  refine pure_ (i := 35) (N := some 40) (v := ?_) (a' := ?_) (bm 43 68719476735) rfl rfl (any_of HT_.out (by as_aux_lemma => kernel_rfl)) (fun _ _ _ h => h) (Or.inl ⟨by rfl, ?_⟩) ?_ ?_
  rotate_left
  · intro w'
    go_simp
    with_reducible rfl
  rotate_left
  · simp only [Act.put, List.setIfInBounds_toArray, List.set_cons_zero, List.set_cons_succ, i64_w, i32_w]
    rfl
  refine pure_ (i := 36) (N := some 41) (v := ?_) (a' := ?_) (bm 43 137438953471) rfl rfl (any_of HT_.out (by as_aux_lemma => kernel_rfl)) (fun _ _ _ h => h) (Or.inl ⟨by rfl, ?_⟩) ?_ ?_
  rotate_left
  · intro w'
    go_simp
    with_reducible rfl
  rotate_left
  · simp only [Act.put, List.setIfInBounds_toArray, List.set_cons_zero, List.set_cons_succ, i64_w, i32_w]
    rfl
  refine pure_ (i := 38) (N := some 43) (v := ?_) (a' := ?_) (bm 43 412316860415) rfl rfl (any_of HT_.out (by as_aux_lemma => kernel_rfl)) (fun _ _ _ h => h) (Or.inl ⟨by rfl, ?_⟩) ?_ ?_
  rotate_left
  · intro w'
    go_simp
    with_reducible rfl
  rotate_left
  · simp only [Act.put, List.setIfInBounds_toArray, List.set_cons_zero, List.set_cons_succ, i64_w, i32_w]
    rfl
  refine take_ (i := 37) (N := some 42) (v := ?_) (a' := ?_) (bm 43 549755813887) rfl rfl (take_ofW HT_.out HW_.out (by as_aux_lemma => kernel_rfl)) (fun _ _ _ h => h) (Or.inl ⟨by rfl, ?_⟩) hHeld ?_ ?_
  rotate_left
  · rintro w' ⟨s0, s1, s2⟩
    have hq : w'.cell? ⟨w.heap.size, 21, none⟩ = some (.slice Ax21 x.objects.length cx21) := cell_of_row w' _ 21 _ _ _ s0
    clear s0 s1 s2
    go_simp
    with_reducible rfl
  rotate_left
  · simp only [Act.put, List.setIfInBounds_toArray, List.set_cons_zero, List.set_cons_succ, i64_w, i32_w]
    rfl
  refine take_ (i := 39) (N := some 44) (v := ?_) (a' := ?_) (bm 43 1099511627775) rfl rfl (take_ofW HT_.out HW_.out (by as_aux_lemma => kernel_rfl)) (fun _ _ _ h => h) (Or.inl ⟨by rfl, ?_⟩) hHeld ?_ ?_
  rotate_left
  · rintro w' ⟨s0, s1, s2⟩
    have hq : w'.cell? ⟨w.heap.size + 1, 21, none⟩ = some (.slice Ay21 y.objects.length cy21) := cell_of_row w' _ 21 _ _ _ s1
    clear s0 s1 s2
    go_simp
    with_reducible rfl
  rotate_left
  · simp only [Act.put, List.setIfInBounds_toArray, List.set_cons_zero, List.set_cons_succ, i64_w, i32_w]
    rfl
  refine one_ (i := 40) (N := some 45) (bm 43 2199023255551) rfl rfl (one_of HT_.out (by as_aux_lemma => kernel_rfl)) (by as_aux_lemma => decide) (fun K hK => ?_)
  refine goes_ Try.func31 (by as_aux_lemma => kernel_rfl) rfl #[.slice Ax21 x.objects.length cx21, .slice Ay21 y.objects.length cy21, .func (.func 32) #[] #[]] (by rfl) rfl rfl (by simp only [List.map_toArray, List.map_cons, List.map_nil]; rfl) ?_
  with_reducible refine (objs_any _ _ _ _ x.objects y.objects _ (Kd.C_below HRx21.out hHeld.2.2.out) (Kd.C_below HRy21.out hHeld.2.2.out) ox.out oy.out).mono ?_
  rintro e w5 ⟨rfl, hb⟩
  refine ⟨_, rfl, ?_⟩
  rw [b5.out]
  refine hK.out _ _ ⟨((hb.block _ (heap_lt' hHeld.1)).trans hHeld.1), ((hb.block _ (heap_lt' hHeld.2.1)).trans hHeld.2.1), (Aside0.mk (below_step hHeld.2.2.out hb))⟩ (fun hHeld => ?_)
  clear hK K
  refine norm_ (a' := ?_) ?_ ?_
  rotate_left
  · show Act.put _ (some 45) _ = _
    simp only [Act.put, List.setIfInBounds_toArray, List.set_cons_zero, List.set_cons_succ, i64_w, i32_w]
    rfl
  refine pure_ (i := 41) (N := some 46) (v := ?_) (a' := ?_) (bm 43 4398046511103) rfl rfl (any_of HT_.out (by as_aux_lemma => kernel_rfl)) (fun _ _ _ h => h) (Or.inl ⟨by rfl, ?_⟩) ?_ ?_
  rotate_left
  · intro w'
    go_simp
    with_reducible rfl
  rotate_left
  · simp only [Act.put, List.setIfInBounds_toArray, List.set_cons_zero, List.set_cons_succ, i64_w, i32_w]
    rfl
  refine pure_ (i := 42) (N := some 4) (v := ?_) (a' := ?_) (bm 43 8796093022207) rfl rfl (any_of HT_.out (by as_aux_lemma => kernel_rfl)) (fun _ _ _ h => h) (Or.inl ⟨by rfl, ?_⟩) ?_ ?_
  rotate_left
  · intro w'
    go_simp
    with_reducible rfl
  rotate_left
  · simp only [Act.put, List.setIfInBounds_toArray, List.set_cons_zero, List.set_cons_succ, i64_w, i32_w]
    rfl
  refine done_ (done_of HT_.out (by as_aux_lemma => kernel_rfl)) ?_

  go_wp2
  go_ret
  exact ⟨rfl, hHeld.2.2.out⟩

theorem same_any (x y : Msg) (Ax12 : Option Addr) (cx12 : Nat) (Ax13 : Option Addr) (cx13 : Nat) (Ax14 : Option Addr) (cx14 : Nat) (Ax15 : Option Addr) (cx15 : Nat) (Ax21 : Option Addr) (cx21 : Nat) (Ay12 : Option Addr) (cy12 : Nat) (Ay13 : Option Addr) (cy13 : Nat) (Ay14 : Option Addr) (cy14 : Nat) (Ay15 : Option Addr) (cy15 : Nat) (Ay21 : Option Addr) (cy21 : Nat) (w : World) (hrx12 : Kd.C (Kd.int .u16) w Ax12 x.words.length x.words) (hcx12 : x.words.length ≤ cx12) (hrx13 : Kd.C Kd.bool w Ax13 x.bits.length x.bits) (hcx13 : x.bits.length ≤ cx13) (hrx14 : Kd.C (Kd.int .u8) w Ax14 x.data.length x.data) (hcx14 : x.data.length ≤ cx14) (hrx15 : Kd.C k50 w Ax15 x.recs.length x.recs) (hcx15 : x.recs.length ≤ cx15) (hrx21 : Kd.C k52 w Ax21 x.objects.length x.objects) (hcx21 : x.objects.length ≤ cx21) (hry12 : Kd.C (Kd.int .u16) w Ay12 y.words.length y.words) (hcy12 : y.words.length ≤ cy12) (hry13 : Kd.C Kd.bool w Ay13 y.bits.length y.bits) (hcy13 : y.bits.length ≤ cy13) (hry14 : Kd.C (Kd.int .u8) w Ay14 y.data.length y.data) (hcy14 : y.data.length ≤ cy14) (hry15 : Kd.C k50 w Ay15 y.recs.length y.recs) (hcy15 : y.recs.length ≤ cy15) (hry21 : Kd.C k52 w Ay21 y.objects.length y.objects) (hcy21 : y.objects.length ≤ cy21) (okx : okM x = true) (oky : okM y = true) :
    Calls Try.prog 24 #[.agg #[.int .u8 x.code, .int .u8 x.fail, .int .u16 x.addr, .int .u16 x.count, .int .u16 x.value, .int .u16 x.and_, .int .u16 x.or_, .int .u16 x.addr2, .int .u16 x.sub, .int .u16 x.status, .int .u16 x.events, .int .u16 x.messages, .slice Ax12 x.words.length cx12, .slice Ax13 x.bits.length cx13, .slice Ax14 x.data.length cx14, .slice Ax15 x.recs.length cx15, .int .u8 x.mei, .int .u8 x.kind, .int .u8 x.level, .int .u8 x.more, .int .u8 x.next, .slice Ax21 x.objects.length cx21], .agg #[.int .u8 y.code, .int .u8 y.fail, .int .u16 y.addr, .int .u16 y.count, .int .u16 y.value, .int .u16 y.and_, .int .u16 y.or_, .int .u16 y.addr2, .int .u16 y.sub, .int .u16 y.status, .int .u16 y.events, .int .u16 y.messages, .slice Ay12 y.words.length cy12, .slice Ay13 y.bits.length cy13, .slice Ay14 y.data.length cy14, .slice Ay15 y.recs.length cy15, .int .u8 y.mei, .int .u8 y.kind, .int .u8 y.level, .int .u8 y.more, .int .u8 y.next, .slice Ay21 y.objects.length cy21]] w fun e w' => e = .returned (.bool (sameB x y)) ∧ Below w.heap.size w w' := by
  have kx := okx
  simp only [okM, u8B, u16B, Bool.and_eq_true, decide_eq_true_eq] at kx
  obtain ⟨⟨⟨⟨⟨⟨⟨⟨⟨⟨⟨⟨⟨⟨⟨⟨⟨⟨vx0, vx1⟩, vx2⟩, vx3⟩, vx4⟩, vx5⟩, vx6⟩, vx7⟩, vx8⟩, vx9⟩, vx10⟩, vx11⟩, vx16⟩, vx17⟩, vx18⟩, vx19⟩, vx20⟩, dx⟩, ox_⟩ := kx
  have ox : ∀ q ∈ x.objects, q.f1.all u8B = true := List.all_eq_true.1 (by simpa [u8B] using ox_)
  have dx2 : isBytes x.data := u8_bytes (by simpa [u8B] using dx)
  have ky := oky
  simp only [okM, u8B, u16B, Bool.and_eq_true, decide_eq_true_eq] at ky
  obtain ⟨⟨⟨⟨⟨⟨⟨⟨⟨⟨⟨⟨⟨⟨⟨⟨⟨⟨vy0, vy1⟩, vy2⟩, vy3⟩, vy4⟩, vy5⟩, vy6⟩, vy7⟩, vy8⟩, vy9⟩, vy10⟩, vy11⟩, vy16⟩, vy17⟩, vy18⟩, vy19⟩, vy20⟩, dy⟩, oy_⟩ := ky
  have oy : ∀ q ∈ y.objects, q.f1.all u8B = true := List.all_eq_true.1 (by simpa [u8B] using oy_)
  have dy2 : isBytes y.data := u8_bytes (by simpa [u8B] using dy)
  have hp := plain_eq x y vx0 vx1 vx16 vx17 vx18 vx19 vx20 vy0 vy1 vy16 vy17 vy18 vy19 vy20
  obtain ⟨k1, p1⟩ := (slices_Equal_uint16_uint16_ev x.words y.words hrx12.2.1).rounds
  obtain ⟨k2, p2⟩ := (slices_Equal_bool_bool_ev x.bits y.bits hrx13.2.1).rounds
  have p3 := str_beq dx2 dy2
  unfold sameB
  rw [← hp]
  cases b0 : eqL [x.code, x.fail, x.addr, x.count, x.value, x.and_, x.or_, x.addr2, x.sub, x.status, x.events, x.messages, shB x.mei x.kind, shB x.level x.more, x.next] [y.code, y.fail, y.addr, y.count, y.value, y.and_, y.or_, y.addr2, y.sub, y.status, y.events, y.messages, shB y.mei y.kind, shB y.level y.more, y.next] with
  | false => simp only [Bool.false_and]; exact same_0 x y Ax12 cx12 Ax13 cx13 Ax14 cx14 Ax15 cx15 Ax21 cx21 Ay12 cy12 Ay13 cy13 Ay14 cy14 Ay15 cy15 Ay21 cy21 w hrx12 hcx12 hrx13 hcx13 hrx14 hcx14 hrx15 hcx15 hrx21 hcx21 hry12 hcy12 hry13 hcy13 hry14 hcy14 hry15 hcy15 hry21 hcy21 vx0 vx1 vx16 vx17 vx18 vx19 vx20 vy0 vy1 vy16 vy17 vy18 vy19 vy20 ox oy b0
  | true =>
    simp only [Bool.true_and]
    cases b1 : (x.words == y.words) with
    | false => rw [b1] at p1; simp only [Bool.false_and]; exact same_1 x y Ax12 cx12 Ax13 cx13 Ax14 cx14 Ax15 cx15 Ax21 cx21 Ay12 cy12 Ay13 cy13 Ay14 cy14 Ay15 cy15 Ay21 cy21 w hrx12 hcx12 hrx13 hcx13 hrx14 hcx14 hrx15 hcx15 hrx21 hcx21 hry12 hcy12 hry13 hcy13 hry14 hcy14 hry15 hcy15 hry21 hcy21 vx0 vx1 vx16 vx17 vx18 vx19 vx20 vy0 vy1 vy16 vy17 vy18 vy19 vy20 ox oy b0 k1 p1
    | true =>
      rw [b1] at p1
      simp only [Bool.true_and]
      cases b2 : (x.bits == y.bits) with
      | false => rw [b2] at p2; simp only [Bool.false_and]; exact same_2 x y Ax12 cx12 Ax13 cx13 Ax14 cx14 Ax15 cx15 Ax21 cx21 Ay12 cy12 Ay13 cy13 Ay14 cy14 Ay15 cy15 Ay21 cy21 w hrx12 hcx12 hrx13 hcx13 hrx14 hcx14 hrx15 hcx15 hrx21 hcx21 hry12 hcy12 hry13 hcy13 hry14 hcy14 hry15 hcy15 hry21 hcy21 vx0 vx1 vx16 vx17 vx18 vx19 vx20 vy0 vy1 vy16 vy17 vy18 vy19 vy20 ox oy b0 k1 p1 k2 p2
      | true =>
        rw [b2] at p2
        simp only [Bool.true_and]
        cases b3 : (x.data == y.data) with
        | false => rw [b3] at p3; simp only [Bool.false_and]; exact same_3 x y Ax12 cx12 Ax13 cx13 Ax14 cx14 Ax15 cx15 Ax21 cx21 Ay12 cy12 Ay13 cy13 Ay14 cy14 Ay15 cy15 Ay21 cy21 w hrx12 hcx12 hrx13 hcx13 hrx14 hcx14 hrx15 hcx15 hrx21 hcx21 hry12 hcy12 hry13 hcy13 hry14 hcy14 hry15 hcy15 hry21 hcy21 vx0 vx1 vx16 vx17 vx18 vx19 vx20 vy0 vy1 vy16 vy17 vy18 vy19 vy20 ox oy b0 k1 p1 k2 p2 p3
        | true =>
          rw [b3] at p3
          simp only [Bool.true_and]
          cases b4 : listB recB x.recs y.recs with
          | false => simp only [Bool.false_and]; exact same_4 x y Ax12 cx12 Ax13 cx13 Ax14 cx14 Ax15 cx15 Ax21 cx21 Ay12 cy12 Ay13 cy13 Ay14 cy14 Ay15 cy15 Ay21 cy21 w hrx12 hcx12 hrx13 hcx13 hrx14 hcx14 hrx15 hcx15 hrx21 hcx21 hry12 hcy12 hry13 hcy13 hry14 hcy14 hry15 hcy15 hry21 hcy21 vx0 vx1 vx16 vx17 vx18 vx19 vx20 vy0 vy1 vy16 vy17 vy18 vy19 vy20 ox oy b0 k1 p1 k2 p2 p3 b4
          | true =>
            simp only [Bool.true_and]
            cases b5 : listB objB x.objects y.objects with
            | false => exact same_5 x y Ax12 cx12 Ax13 cx13 Ax14 cx14 Ax15 cx15 Ax21 cx21 Ay12 cy12 Ay13 cy13 Ay14 cy14 Ay15 cy15 Ay21 cy21 w hrx12 hcx12 hrx13 hcx13 hrx14 hcx14 hrx15 hcx15 hrx21 hcx21 hry12 hcy12 hry13 hcy13 hry14 hcy14 hry15 hcy15 hry21 hcy21 vx0 vx1 vx16 vx17 vx18 vx19 vx20 vy0 vy1 vy16 vy17 vy18 vy19 vy20 ox oy b0 k1 p1 k2 p2 p3 b4 b5
            | true => exact same_6 x y Ax12 cx12 Ax13 cx13 Ax14 cx14 Ax15 cx15 Ax21 cx21 Ay12 cy12 Ay13 cy13 Ay14 cy14 Ay15 cy15 Ay21 cy21 w hrx12 hcx12 hrx13 hcx13 hrx14 hcx14 hrx15 hcx15 hrx21 hcx21 hry12 hcy12 hry13 hcy13 hry14 hcy14 hry15 hcy15 hry21 hcy21 vx0 vx1 vx16 vx17 vx18 vx19 vx20 vy0 vy1 vy16 vy17 vy18 vy19 vy20 ox oy b0 k1 p1 k2 p2 p3 b4 b5

end Go.Proofs.Ytbilolgiihegiaa.Same
