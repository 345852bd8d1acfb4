/- CodeSame: the law's walk, messages as letters; what it tells of any two messages. -/
import Derived.Test.YtoompkobcohehaaMsg
import Derived.Test.YtoompkobcohehaaPx16
set_option linter.unusedVariables false
set_option linter.unusedSimpArgs false
namespace Go.Proofs.Ytoompkobcohehaa.Laws
open Go.RowKit Go.Proofs.Ytoompkobcohehaa.P Go.Proofs.Ytoompkobcohehaa.E Go.Proofs.Ytoompkobcohehaa.Same Go.Proofs.YtoompkobcohehaaW.PrintWords Go.Proofs.YtoompkobcohehaaW.PrintLast Go.Proofs.YtoompkobcohehaaW.PrintMore
def cs.T6 : Bool × List (List Nat × List Nat) := (true, [([], []), ([0], [0]), ([1], [1]), ([1], [1]), ([2, 3, 1, 1], [1, 2, 3]), ([1], [1]), ([1], [1]), ([5, 6, 4, 1], [1, 5, 6]), ([4, 7, 1], [1, 4, 7]), ([1, 8], [1, 8]), ([9, 7], [9]), ([10], [10]), ([10], [10]), ([11, 12, 10, 10], [10, 11, 12]), ([10, 13], [10, 13]), ([14, 13], [14]), ([15], [15]), ([15], [15]), ([16, 17, 15, 15], [15, 16, 17]), ([15], [15]), ([15], [15]), ([19, 20, 18, 15], [15, 19, 20]), ([18, 21, 15], [15, 18, 21]), ([15, 22], [15, 22]), ([23, 21, 0, 1, 2, 3, 4, 5, 6, 7, 8, 9, 10, 11, 12, 13, 14, 15, 16, 17, 18, 19, 20, 21, 22, 23], [23])])
def cs.B6 : List Nat := [0, 1, 3, 3, 15, 3, 3, 127, 255, 511, 1023, 2047, 2047, 8191, 16383, 32767, 65535, 65535, 262143, 65535, 65535, 2097151, 4194303, 8388607, 16777215]
theorem cs.tab6 : rtab .any (opsOf Try.f5 6) = cs.T6 := by kernel_rfl
theorem cs.bits6 : waitsOk cs.T6.2 cs.B6 = true := by kernel_rfl
set_option maxHeartbeats 4000000 in
set_option maxRecDepth 100000 in
theorem cs_walk (cx cy : Array Value) (sx : cx.size = 22) (sy : cy.size = 22) (w : World) (fx fy b : Bool)
    (Aw : ∀ W', Below w.heap.size w W' → Calls Try.prog 7 #[] W' fun e w' => e = .returned (.bool true) ∧ Below W'.heap.size W' w')
    (Fx : ∀ W', Below w.heap.size w W' → Calls Try.prog 17 #[.agg cx] W' fun e w' => e = .returned (.bool fx) ∧ Below W'.heap.size W' w')
    (Fy : ∀ W', Below w.heap.size w W' → Calls Try.prog 17 #[.agg cy] W' fun e w' => e = .returned (.bool fy) ∧ Below W'.heap.size W' w')
    (Sxy : ∀ W', Below w.heap.size w W' → Calls Try.prog 18 #[.agg cx, .agg cy] W' fun e w' => e = .returned (.bool b) ∧ Below W'.heap.size W' w')
    (Rxy : ∀ W', Below w.heap.size w W' → Calls Try.prog 19 #[.agg cx, .agg cy] W' fun e w' => e = .returned (.bool b) ∧ Below W'.heap.size W' w')
    (Sxx : ∀ W', Below w.heap.size w W' → Calls Try.prog 18 #[.agg cx, .agg cx] W' fun e w' => e = .returned (.bool true) ∧ Below W'.heap.size W' w')
    (Syx : ∀ W', Below w.heap.size w W' → Calls Try.prog 18 #[.agg cy, .agg cx] W' fun e w' => e = .returned (.bool b) ∧ Below W'.heap.size W' w') :
    Calls Try.prog 5 #[.agg cx, .agg cy] w fun e w' => e = .returned (.bool true) ∧ Below w.heap.size w w' := by
  have AW := Aside0.mk Aw
  have FX := Aside0.mk Fx
  have FY := Aside0.mk Fy
  have SXY := Aside0.mk Sxy
  have RXY := Aside0.mk Rxy
  have SXX := Aside0.mk Sxx
  have SYX := Aside0.mk Syx
  clear Aw Fx Fy Sxy Rxy Sxx Syx
  go_enter Try.func5, Try.ntmps5
  have hix : (Try.prog.info? 35).map (·.size) = some cx.size := by rw [sx]; kernel_rfl
  have hiy : (Try.prog.info? 35).map (·.size) = some cy.size := by rw [sy]; kernel_rfl
  go_upto_region 1 with (fail)
  obtain ⟨wc, hwc⟩ : ∃ wc, wc = (w.alloc (Obj.cells cx 35)).alloc (Obj.cells cy 35) := ⟨_, rfl⟩
  rw [← hwc]
  have H0 := Two.start w cx cy 35
  rw [← hwc] at H0
  clear hwc
  go_upto_region 2 with (go_at_call 7; refine (AW.out _ H0.b).mono ?_; rintro e w1 ⟨rfl, hb⟩; have H1 := H0.on hb; clear hb H0)
  refine wp_region_lit ?_
  refine Kd.event_run rfl (exec_load_row 35 (.tmp 2) rfl w.heap.size rfl 35 cx (0, 0) _ H1.x Try.underlying35 rfl hix) ?_
  simp only [Act.put, List.setIfInBounds_toArray, List.set_cons_zero, List.set_cons_succ]
  go_upto_region 3 with (go_at_call 17; refine (FX.out _ H1.b).mono ?_; rintro e w2 ⟨rfl, hb⟩; have H2 := H1.on hb; clear hb H1)
  refine wp_region_lit ?_
  refine Kd.event_run rfl (exec_load_row 35 (.tmp 3) rfl (w.heap.size + 1) rfl 35 cy (0, 0) _ H2.y Try.underlying35 rfl hiy) ?_
  simp only [Act.put, List.setIfInBounds_toArray, List.set_cons_zero, List.set_cons_succ]
  cases fx with
  | false =>
    go_wp2_with (go_at_call 17; refine (FY.out _ H2.b).mono ?_; rintro e w3 ⟨rfl, hb⟩; have H3 := H2.on hb; clear hb H2)
    go_ret
    exact ⟨rfl, H3.b⟩
  | true =>
  cases fy with
  | false =>
    go_wp2_with (go_at_call 17; refine (FY.out _ H2.b).mono ?_; rintro e w3 ⟨rfl, hb⟩; have H3 := H2.on hb; clear hb H2)
    go_ret
    exact ⟨rfl, H3.b⟩
  | true =>
  go_upto_region 6 with (go_at_call 17; refine (FY.out _ H2.b).mono ?_; rintro e w3 ⟨rfl, hb⟩; have H3 := H2.on hb; clear hb H2)
  have H3d : Two w cx cy 35 w3.drew := ⟨H3.x, H3.y, H3.b.drew⟩
  refine start_ (n := 25) (S := fun w' => Two w cx cy 35 w' ∧ Aside0 True) (ds := []) (bm 25 0) (by as_aux_lemma => kernel_rfl) rfl (by as_aux_lemma => kernel_rfl) ⟨H3d, (Aside0.mk trivial)⟩ (fun hHeld => ?_)
  refine with_tabW cs.tab6 cs.bits6 (fun HT_ HW_ => ?_)
  refine pure_ (i := 0) (N := some 20) (v := ?_) (a' := ?_) (bm 25 1) rfl rfl (any_of HT_.out (by as_aux_lemma => kernel_rfl)) (fun _ _ _ h => h) (Or.inl ⟨by rfl, ?_⟩) ?_ ?_
  rotate_left
  · intro w'
    go_simp
    with_reducible rfl
  rotate_left
  · simp only [Act.put, List.setIfInBounds_toArray, List.set_cons_zero, List.set_cons_succ, i64_w, i32_w]
    rfl
  refine pure_ (i := 1) (N := some 21) (v := ?_) (a' := ?_) (bm 25 3) rfl rfl (any_of HT_.out (by as_aux_lemma => kernel_rfl)) (fun _ _ _ h => h) (Or.inl ⟨by rfl, ?_⟩) ?_ ?_
  rotate_left
  · intro w'
    go_simp
    with_reducible rfl
  rotate_left
  · simp only [Act.put, List.setIfInBounds_toArray, List.set_cons_zero, List.set_cons_succ, i64_w, i32_w]
    rfl
  refine take_ (i := 2) (N := some 22) (v := ?_) (a' := ?_) (bm 25 7) rfl rfl (take_ofW HT_.out HW_.out (by as_aux_lemma => kernel_rfl)) (fun _ _ _ h => h) (Or.inl ⟨by rfl, ?_⟩) hHeld ?_ ?_
  rotate_left
  · rintro w' ⟨s0, s1⟩
    refine exec_load_row 35 (.tmp 2) ?ha_1 w.heap.size ?hb_1 35 cx (0, 0) _ s0.x Try.underlying35 ?hc_1 hix
    case ha_1 => rfl
    case hb_1 => rfl
    exact rfl
  rotate_left
  · simp only [Act.put, List.setIfInBounds_toArray, List.set_cons_zero, List.set_cons_succ, i64_w, i32_w]
    rfl
  refine take_ (i := 3) (N := some 23) (v := ?_) (a' := ?_) (bm 25 15) rfl rfl (take_ofW HT_.out HW_.out (by as_aux_lemma => kernel_rfl)) (fun _ _ _ h => h) (Or.inl ⟨by rfl, ?_⟩) hHeld ?_ ?_
  rotate_left
  · rintro w' ⟨s0, s1⟩
    refine exec_load_row 35 (.tmp 3) ?ha_2 (w.heap.size + 1) ?hb_2 35 cy (0, 0) _ s0.y Try.underlying35 ?hc_2 hiy
    case ha_2 => rfl
    case hb_2 => rfl
    exact rfl
  rotate_left
  · simp only [Act.put, List.setIfInBounds_toArray, List.set_cons_zero, List.set_cons_succ, i64_w, i32_w]
    rfl
  refine take_ (i := 5) (N := some 25) (v := ?_) (a' := ?_) (bm 25 47) rfl rfl (take_ofW HT_.out HW_.out (by as_aux_lemma => kernel_rfl)) (fun _ _ _ h => h) (Or.inl ⟨by rfl, ?_⟩) hHeld ?_ ?_
  rotate_left
  · rintro w' ⟨s0, s1⟩
    refine exec_load_row 35 (.tmp 2) ?ha_3 w.heap.size ?hb_3 35 cx (0, 0) _ s0.x Try.underlying35 ?hc_3 hix
    case ha_3 => rfl
    case hb_3 => rfl
    exact rfl
  rotate_left
  · simp only [Act.put, List.setIfInBounds_toArray, List.set_cons_zero, List.set_cons_succ, i64_w, i32_w]
    rfl
  refine take_ (i := 6) (N := some 26) (v := ?_) (a' := ?_) (bm 25 111) rfl rfl (take_ofW HT_.out HW_.out (by as_aux_lemma => kernel_rfl)) (fun _ _ _ h => h) (Or.inl ⟨by rfl, ?_⟩) hHeld ?_ ?_
  rotate_left
  · rintro w' ⟨s0, s1⟩
    refine exec_load_row 35 (.tmp 3) ?ha_4 (w.heap.size + 1) ?hb_4 35 cy (0, 0) _ s0.y Try.underlying35 ?hc_4 hiy
    case ha_4 => rfl
    case hb_4 => rfl
    exact rfl
  rotate_left
  · simp only [Act.put, List.setIfInBounds_toArray, List.set_cons_zero, List.set_cons_succ, i64_w, i32_w]
    rfl
  refine one_ (i := 4) (N := some 24) (bm 25 127) rfl rfl (one_of HT_.out (by as_aux_lemma => kernel_rfl)) (by as_aux_lemma => decide) (fun K hK => ?_)
  refine goes_ Try.func18 (by as_aux_lemma => kernel_rfl) rfl #[.agg cx, .agg cy] (by rfl) rfl rfl (by simp only [List.map_toArray, List.map_cons, List.map_nil]; rfl) ?_
  with_reducible refine (SXY.out _ hHeld.1.b).mono ?_
  rintro e w4 ⟨rfl, hb⟩
  refine ⟨_, rfl, ?_⟩
  refine hK.out _ _ ⟨(hHeld.1.on hb), hHeld.2⟩ (fun hHeld => ?_)
  clear hK K
  refine norm_ (a' := ?_) ?_ ?_
  rotate_left
  · show Act.put _ (some 24) _ = _
    simp only [Act.put, List.setIfInBounds_toArray, List.set_cons_zero, List.set_cons_succ, i64_w, i32_w]
    rfl
  refine one_ (i := 7) (N := some 27) (bm 25 255) rfl rfl (one_of HT_.out (by as_aux_lemma => kernel_rfl)) (by as_aux_lemma => decide) (fun K hK => ?_)
  refine goes_ Try.func19 (by as_aux_lemma => kernel_rfl) rfl #[.agg cx, .agg cy] (by rfl) rfl rfl (by simp only [List.map_toArray, List.map_cons, List.map_nil]; rfl) ?_
  with_reducible refine (RXY.out _ hHeld.1.b).mono ?_
  rintro e w4 ⟨rfl, hb⟩
  refine ⟨_, rfl, ?_⟩
  refine hK.out _ _ ⟨(hHeld.1.on hb), hHeld.2⟩ (fun hHeld => ?_)
  clear hK K
  refine norm_ (a' := ?_) ?_ ?_
  rotate_left
  · show Act.put _ (some 27) _ = _
    simp only [Act.put, List.setIfInBounds_toArray, List.set_cons_zero, List.set_cons_succ, i64_w, i32_w]
    rfl
  refine pure_ (i := 8) (N := some 28) (v := ?_) (a' := ?_) (bm 25 511) rfl rfl (any_of HT_.out (by as_aux_lemma => kernel_rfl)) (fun _ _ _ h => h) (Or.inl ⟨by rfl, ?_⟩) ?_ ?_
  rotate_left
  · intro w'
    go_simp
    with_reducible rfl
  rotate_left
  · simp only [Act.put, List.setIfInBounds_toArray, List.set_cons_zero, List.set_cons_succ, i64_w, i32_w]
    rfl
  refine pure_ (i := 9) (N := some 29) (v := ?_) (a' := ?_) (bm 25 1023) rfl rfl (any_of HT_.out (by as_aux_lemma => kernel_rfl)) (fun _ _ _ h => h) (Or.inl ⟨by rfl, ?_⟩) ?_ ?_
  rotate_left
  · intro w'
    go_simp
    with_reducible rfl
  rotate_left
  · simp only [Act.put, List.setIfInBounds_toArray, List.set_cons_zero, List.set_cons_succ, i64_w, i32_w]
    rfl
  refine pure_ (i := 10) (N := some 30) (v := ?_) (a' := ?_) (bm 25 2047) rfl rfl (any_of HT_.out (by as_aux_lemma => kernel_rfl)) (fun _ _ _ h => h) (Or.inl ⟨by rfl, ?_⟩) ?_ ?_
  rotate_left
  · intro w'
    go_simp
    with_reducible rfl
  rotate_left
  · simp only [Act.put, List.setIfInBounds_toArray, List.set_cons_zero, List.set_cons_succ, i64_w, i32_w]
    rfl
  refine take_ (i := 11) (N := some 31) (v := ?_) (a' := ?_) (bm 25 4095) rfl rfl (take_ofW HT_.out HW_.out (by as_aux_lemma => kernel_rfl)) (fun _ _ _ h => h) (Or.inl ⟨by rfl, ?_⟩) hHeld ?_ ?_
  rotate_left
  · rintro w' ⟨s0, s1⟩
    refine exec_load_row 35 (.tmp 2) ?ha_5 w.heap.size ?hb_5 35 cx (0, 0) _ s0.x Try.underlying35 ?hc_5 hix
    case ha_5 => rfl
    case hb_5 => rfl
    exact rfl
  rotate_left
  · simp only [Act.put, List.setIfInBounds_toArray, List.set_cons_zero, List.set_cons_succ, i64_w, i32_w]
    rfl
  refine take_ (i := 12) (N := some 32) (v := ?_) (a' := ?_) (bm 25 8191) rfl rfl (take_ofW HT_.out HW_.out (by as_aux_lemma => kernel_rfl)) (fun _ _ _ h => h) (Or.inl ⟨by rfl, ?_⟩) hHeld ?_ ?_
  rotate_left
  · rintro w' ⟨s0, s1⟩
    refine exec_load_row 35 (.tmp 2) ?ha_6 w.heap.size ?hb_6 35 cx (0, 0) _ s0.x Try.underlying35 ?hc_6 hix
    case ha_6 => rfl
    case hb_6 => rfl
    exact rfl
  rotate_left
  · simp only [Act.put, List.setIfInBounds_toArray, List.set_cons_zero, List.set_cons_succ, i64_w, i32_w]
    rfl
  refine one_ (i := 13) (N := some 33) (bm 25 16383) rfl rfl (one_of HT_.out (by as_aux_lemma => kernel_rfl)) (by as_aux_lemma => decide) (fun K hK => ?_)
  refine goes_ Try.func18 (by as_aux_lemma => kernel_rfl) rfl #[.agg cx, .agg cx] (by rfl) rfl rfl (by simp only [List.map_toArray, List.map_cons, List.map_nil]; rfl) ?_
  with_reducible refine (SXX.out _ hHeld.1.b).mono ?_
  rintro e w4 ⟨rfl, hb⟩
  refine ⟨_, rfl, ?_⟩
  refine hK.out _ _ ⟨(hHeld.1.on hb), hHeld.2⟩ (fun hHeld => ?_)
  clear hK K
  refine norm_ (a' := ?_) ?_ ?_
  rotate_left
  · show Act.put _ (some 33) _ = _
    simp only [Act.put, List.setIfInBounds_toArray, List.set_cons_zero, List.set_cons_succ, i64_w, i32_w]
    rfl
  refine pure_ (i := 14) (N := some 34) (v := ?_) (a' := ?_) (bm 25 32767) rfl rfl (any_of HT_.out (by as_aux_lemma => kernel_rfl)) (fun _ _ _ h => h) (Or.inl ⟨by rfl, ?_⟩) ?_ ?_
  rotate_left
  · intro w'
    go_simp
    with_reducible rfl
  rotate_left
  · simp only [Act.put, List.setIfInBounds_toArray, List.set_cons_zero, List.set_cons_succ, i64_w, i32_w]
    rfl
  refine pure_ (i := 15) (N := some 35) (v := ?_) (a' := ?_) (bm 25 65535) rfl rfl (any_of HT_.out (by as_aux_lemma => kernel_rfl)) (fun _ _ _ h => h) (Or.inl ⟨by rfl, ?_⟩) ?_ ?_
  rotate_left
  · intro w'
    go_simp
    with_reducible rfl
  rotate_left
  · simp only [Act.put, List.setIfInBounds_toArray, List.set_cons_zero, List.set_cons_succ, i64_w, i32_w]
    rfl
  refine take_ (i := 16) (N := some 36) (v := ?_) (a' := ?_) (bm 25 131071) rfl rfl (take_ofW HT_.out HW_.out (by as_aux_lemma => kernel_rfl)) (fun _ _ _ h => h) (Or.inl ⟨by rfl, ?_⟩) hHeld ?_ ?_
  rotate_left
  · rintro w' ⟨s0, s1⟩
    refine exec_load_row 35 (.tmp 2) ?ha_7 w.heap.size ?hb_7 35 cx (0, 0) _ s0.x Try.underlying35 ?hc_7 hix
    case ha_7 => rfl
    case hb_7 => rfl
    exact rfl
  rotate_left
  · simp only [Act.put, List.setIfInBounds_toArray, List.set_cons_zero, List.set_cons_succ, i64_w, i32_w]
    rfl
  refine take_ (i := 17) (N := some 37) (v := ?_) (a' := ?_) (bm 25 262143) rfl rfl (take_ofW HT_.out HW_.out (by as_aux_lemma => kernel_rfl)) (fun _ _ _ h => h) (Or.inl ⟨by rfl, ?_⟩) hHeld ?_ ?_
  rotate_left
  · rintro w' ⟨s0, s1⟩
    refine exec_load_row 35 (.tmp 3) ?ha_8 (w.heap.size + 1) ?hb_8 35 cy (0, 0) _ s0.y Try.underlying35 ?hc_8 hiy
    case ha_8 => rfl
    case hb_8 => rfl
    exact rfl
  rotate_left
  · simp only [Act.put, List.setIfInBounds_toArray, List.set_cons_zero, List.set_cons_succ, i64_w, i32_w]
    rfl
  refine take_ (i := 19) (N := some 39) (v := ?_) (a' := ?_) (bm 25 786431) rfl rfl (take_ofW HT_.out HW_.out (by as_aux_lemma => kernel_rfl)) (fun _ _ _ h => h) (Or.inl ⟨by rfl, ?_⟩) hHeld ?_ ?_
  rotate_left
  · rintro w' ⟨s0, s1⟩
    refine exec_load_row 35 (.tmp 3) ?ha_9 (w.heap.size + 1) ?hb_9 35 cy (0, 0) _ s0.y Try.underlying35 ?hc_9 hiy
    case ha_9 => rfl
    case hb_9 => rfl
    exact rfl
  rotate_left
  · simp only [Act.put, List.setIfInBounds_toArray, List.set_cons_zero, List.set_cons_succ, i64_w, i32_w]
    rfl
  refine take_ (i := 20) (N := some 40) (v := ?_) (a' := ?_) (bm 25 1835007) rfl rfl (take_ofW HT_.out HW_.out (by as_aux_lemma => kernel_rfl)) (fun _ _ _ h => h) (Or.inl ⟨by rfl, ?_⟩) hHeld ?_ ?_
  rotate_left
  · rintro w' ⟨s0, s1⟩
    refine exec_load_row 35 (.tmp 2) ?ha_10 w.heap.size ?hb_10 35 cx (0, 0) _ s0.x Try.underlying35 ?hc_10 hix
    case ha_10 => rfl
    case hb_10 => rfl
    exact rfl
  rotate_left
  · simp only [Act.put, List.setIfInBounds_toArray, List.set_cons_zero, List.set_cons_succ, i64_w, i32_w]
    rfl
  refine one_ (i := 18) (N := some 38) (bm 25 2097151) rfl rfl (one_of HT_.out (by as_aux_lemma => kernel_rfl)) (by as_aux_lemma => decide) (fun K hK => ?_)
  refine goes_ Try.func18 (by as_aux_lemma => kernel_rfl) rfl #[.agg cx, .agg cy] (by rfl) rfl rfl (by simp only [List.map_toArray, List.map_cons, List.map_nil]; rfl) ?_
  with_reducible refine (SXY.out _ hHeld.1.b).mono ?_
  rintro e w4 ⟨rfl, hb⟩
  refine ⟨_, rfl, ?_⟩
  refine hK.out _ _ ⟨(hHeld.1.on hb), hHeld.2⟩ (fun hHeld => ?_)
  clear hK K
  refine norm_ (a' := ?_) ?_ ?_
  rotate_left
  · show Act.put _ (some 38) _ = _
    simp only [Act.put, List.setIfInBounds_toArray, List.set_cons_zero, List.set_cons_succ, i64_w, i32_w]
    rfl
  refine one_ (i := 21) (N := some 41) (bm 25 4194303) rfl rfl (one_of HT_.out (by as_aux_lemma => kernel_rfl)) (by as_aux_lemma => decide) (fun K hK => ?_)
  refine goes_ Try.func18 (by as_aux_lemma => kernel_rfl) rfl #[.agg cy, .agg cx] (by rfl) rfl rfl (by simp only [List.map_toArray, List.map_cons, List.map_nil]; rfl) ?_
  with_reducible refine (SYX.out _ hHeld.1.b).mono ?_
  rintro e w4 ⟨rfl, hb⟩
  refine ⟨_, rfl, ?_⟩
  refine hK.out _ _ ⟨(hHeld.1.on hb), hHeld.2⟩ (fun hHeld => ?_)
  clear hK K
  refine norm_ (a' := ?_) ?_ ?_
  rotate_left
  · show Act.put _ (some 41) _ = _
    simp only [Act.put, List.setIfInBounds_toArray, List.set_cons_zero, List.set_cons_succ, i64_w, i32_w]
    rfl
  refine pure_ (i := 22) (N := some 42) (v := ?_) (a' := ?_) (bm 25 8388607) rfl rfl (any_of HT_.out (by as_aux_lemma => kernel_rfl)) (fun _ _ _ h => h) (Or.inl ⟨by rfl, ?_⟩) ?_ ?_
  rotate_left
  · intro w'
    go_simp
    with_reducible rfl
  rotate_left
  · simp only [Act.put, List.setIfInBounds_toArray, List.set_cons_zero, List.set_cons_succ, i64_w, i32_w]
    rfl
  refine pure_ (i := 23) (N := some 43) (v := ?_) (a' := ?_) (bm 25 16777215) rfl rfl (any_of HT_.out (by as_aux_lemma => kernel_rfl)) (fun _ _ _ h => h) (Or.inl ⟨by rfl, ?_⟩) ?_ ?_
  rotate_left
  · intro w'
    go_simp
    with_reducible rfl
  rotate_left
  · simp only [Act.put, List.setIfInBounds_toArray, List.set_cons_zero, List.set_cons_succ, i64_w, i32_w]
    rfl
  refine pure_ (i := 24) (N := some 4) (v := ?_) (a' := ?_) (bm 25 33554431) rfl rfl (any_of HT_.out (by as_aux_lemma => kernel_rfl)) (fun _ _ _ h => h) (Or.inl ⟨by rfl, ?_⟩) ?_ ?_
  rotate_left
  · intro w'
    go_simp
    with_reducible rfl
  rotate_left
  · simp only [Act.put, List.setIfInBounds_toArray, List.set_cons_zero, List.set_cons_succ, i64_w, i32_w]
    rfl
  refine done_ (done_of HT_.out (by as_aux_lemma => kernel_rfl)) ?_

  go_wp2
  go_ret
  exact ⟨by cases b <;> rfl, hHeld.1.b⟩
theorem awake07 : busbarlaw07_awake.f = some true := by decide +kernel
theorem busbarlaw07_CodeSame (x : Msg) (cx : Array Value) (y : Msg) (cy : Array Value) (w : World) (hx : IsMsg w cx x) (hy : IsMsg w cy y) :
    Calls Try.prog 5 #[.agg cx, .agg cy] w fun e w' => e = .returned (.bool true) ∧ Below w.heap.size w w' :=
  cs_walk cx cy hx.size hy.size w (fewB x) (fewB y) (sameB x y) (fun W' _ => busbarlaw07_awake.calls true W' awake07) (fun _ hb => few_msg (hx.on hb)) (fun _ hb => few_msg (hy.on hb)) (fun _ hb => same_msg (hx.on hb) (hy.on hb)) (fun _ hb => refsame_msg (hx.on hb) (hy.on hb))
    (fun _ hb => by have h := same_msg (hx.on hb) (hx.on hb); rw [same_refl] at h; exact h) (fun _ hb => by have h := same_msg (hy.on hb) (hx.on hb); rw [same_comm] at h; exact h)
end Go.Proofs.Ytoompkobcohehaa.Laws
