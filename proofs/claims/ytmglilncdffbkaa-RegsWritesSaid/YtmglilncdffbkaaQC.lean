/- What the laws of this chapter rest on, part 3: what the functions that they reach answer, each shown once. Conditions: what each theorem states. (Merged by a program of this session, wip/tools/merge.py, out of its own texts and of the words that the kit's print wrote for this seat, cut to those that are used.) -/
import Derived.Deep.CutRange
import Derived.Test.YtmglilncdffbkaaQB
set_option linter.unusedVariables false
set_option linter.unusedSimpArgs false
set_option maxHeartbeats 16000000
set_option maxRecDepth 100000
section
namespace Go.Proofs.Ytmglilncdffbkaa.RCur
open Go.RowKit Go.Proofs.Ytmglilncdffbkaa.P Go.Proofs.Ytmglilncdffbkaa.E Go.Proofs.Ytmglilncdffbkaa.Cur Go.Proofs.YtmglilncdffbkaaW.PrintWords Go.Proofs.YtmglilncdffbkaaW.PrintLast Go.Proofs.YtmglilncdffbkaaW.PrintMore
def RAt (hi : Nat) (w : World) (g : Nat) (xs : List Int) (n : Nat) (s : Bool) (e : Int) : Prop :=
  hi ≤ g ∧ n ≤ xs.length ∧ xs.length ≤ 1000000 ∧ ∃ A c, w.heap[g]? = some (.cells #[.slice A xs.length c, .int .i64 n, .bool s, .int .i64 e] 55 (0, 0)) ∧ xs.length ≤ c ∧ Row 0 hi w A xs
theorem RAt.lt {hi : Nat} {w : World} {g : Nat} {xs : List Int} {n : Nat} {s : Bool} {e : Int} (h : RAt hi w g xs n s e) : g < w.heap.size := by
  obtain ⟨_, _, _, A, c, h1, _⟩ := h
  exact blk_lt h1
theorem RAt.on {hi : Nat} {w w' : World} {g : Nat} {xs : List Int} {n : Nat} {s : Bool} {e : Int} {S : Nat → Prop} (h : RAt hi w g xs n s e) (hk : Kept w w' S) (h1 : ∀ k, S k → hi ≤ k) (h2 : ¬ S g) : RAt hi w' g xs n s e := by
  obtain ⟨h3, h7, h8, A, c, h4, h5, h6⟩ := h
  exact ⟨h3, h7, h8, A, c, blk_kept h4 hk h2, h5, h6.on (hk.mono fun k hk => .inr (h1 k hk))⟩
theorem RAt.below {hi : Nat} {w w' : World} {g : Nat} {xs : List Int} {n : Nat} {s : Bool} {e : Int} (h : RAt hi w g xs n s e) (hb : Below w.heap.size w w') : RAt hi w' g xs n s e :=
  h.on (Kept.of_below hb (fun _ => False)) (fun _ h => h.elim) (fun h => h)
theorem cells4 {w : World} {g : Nat} {t : TypeId} {v0 v1 v2 v3 : Value} (h : w.heap[g]? = some (.cells #[v0, v1, v2, v3] t (0, 0))) : (w.cell? ⟨g, 0, none⟩ = some v0 ∧ w.cell? ⟨g, 1, none⟩ = some v1 ∧ w.cell? ⟨g, 2, none⟩ = some v2 ∧ w.cell? ⟨g, 3, none⟩ = some v3) ∧ w.frozen? ⟨g, 0, none⟩ = false ∧ w.frozen? ⟨g, 1, none⟩ = false ∧ w.frozen? ⟨g, 2, none⟩ = false ∧ w.frozen? ⟨g, 3, none⟩ = false :=
  ⟨⟨blk_cell h 0, blk_cell h 1, blk_cell h 2, blk_cell h 3⟩, blk_frozen h 0, blk_frozen h 1, blk_frozen h 2, blk_frozen h 3⟩
def bm (n m : Nat) : Array Bool := ⟨(List.range n).map fun i => m.testBit i⟩
theorem need_set (hi g : Nat) (xs : List Int) (n : Nat) (s : Bool) (f : Int) (w : World) (h : RAt hi w g xs n s 0) :
    Calls Try.prog 25 #[.pointer (some ⟨g, 0, none⟩), .bool false, .int .i64 f] w fun en w' => en = .returned (.tuple #[]) ∧ RAt hi w' g xs n s f ∧ Upd g w w' := by
  obtain ⟨h1, hn, hx, A, c, h2, h3, h4⟩ := h
  obtain ⟨⟨k0, k1, k2, k3⟩, f0, f1, f2, f3⟩ := cells4 h2
  have H2 := Aside0.mk h2
  have H4 := Aside0.mk h4
  clear h2 h4
  have hu1 := Try.underlying55
  go_enter Try.func25, Try.ntmps25
  go_wp2
  first
  | exact bodyPost_end (results_none rfl _ _ _) rfl ⟨rfl, ⟨h1, hn, hx, A, c, blk_put H2.out 3 _ rfl, h3, H4.out.on ((Upd.set w g 3 _).kept.mono (fun k hk => .inr (by omega)))⟩, Upd.set _ _ _ _⟩
  | exact bodyPost_ret (results_none rfl _ _ _) rfl ⟨rfl, ⟨h1, hn, hx, A, c, blk_put H2.out 3 _ rfl, h3, H4.out.on ((Upd.set w g 3 _).kept.mono (fun k hk => .inr (by omega)))⟩, Upd.set _ _ _ _⟩
theorem need_met (hi g : Nat) (xs : List Int) (n : Nat) (s : Bool) (e : Int) (w : World) (h : RAt hi w g xs n s e) (f : Int) :
    Calls Try.prog 25 #[.pointer (some ⟨g, 0, none⟩), .bool true, .int .i64 f] w fun en w' => en = .returned (.tuple #[]) ∧ RAt hi w' g xs n s e ∧ Upd g w w' := by
  obtain ⟨h1, hn, hx, A, c, h2, h3, h4⟩ := h
  obtain ⟨⟨k0, k1, k2, k3⟩, f0, f1, f2, f3⟩ := cells4 h2
  have H2 := Aside0.mk h2
  have H4 := Aside0.mk h4
  clear h2 h4
  have hu1 := Try.underlying55
  go_enter Try.func25, Try.ntmps25
  go_wp2
  exact bodyPost_ret (results_none rfl _ _ _) rfl ⟨rfl, ⟨h1, hn, hx, A, c, H2.out, h3, H4.out⟩, Upd.refl _ _⟩
theorem need_keep (hi g : Nat) (xs : List Int) (n : Nat) (s : Bool) (e : Int) (w : World) (h : RAt hi w g xs n s e) (f : Int) (he : e ≠ 0) :
    Calls Try.prog 25 #[.pointer (some ⟨g, 0, none⟩), .bool false, .int .i64 f] w fun en w' => en = .returned (.tuple #[]) ∧ RAt hi w' g xs n s e ∧ Upd g w w' := by
  have e1 : (e == 0) = false := beq_eq_false_iff_ne.2 he
  have e2 : (e != 0) = true := bne_iff_ne.2 he
  clear he
  obtain ⟨h1, hn, hx, A, c, h2, h3, h4⟩ := h
  obtain ⟨⟨k0, k1, k2, k3⟩, f0, f1, f2, f3⟩ := cells4 h2
  have H2 := Aside0.mk h2
  have H4 := Aside0.mk h4
  clear h2 h4
  have hu1 := Try.underlying55
  go_enter Try.func25, Try.ntmps25
  go_wp2
  exact bodyPost_ret (results_none rfl _ _ _) rfl ⟨rfl, ⟨h1, hn, hx, A, c, H2.out, h3, H4.out⟩, Upd.refl _ _⟩
theorem need_any (hi g : Nat) (xs : List Int) (n : Nat) (s : Bool) (e : Int) (w : World) (h : RAt hi w g xs n s e) (f : Int) :
    Calls Try.prog 25 #[.pointer (some ⟨g, 0, none⟩), .bool false, .int .i64 f] w fun en w' => en = .returned (.tuple #[]) ∧ RAt hi w' g xs n s (fstE e f) ∧ Upd g w w' := by
  by_cases he : e = 0
  · subst he
    exact need_set hi g xs n s f w h
  · have := need_keep hi g xs n s e w h f he
    rw [show fstE e f = e from if_neg he]
    exact this
def rleft.T1 : Bool × List (List Nat × List Nat) := (true, [([], []), ([0], [0]), ([1], [1]), ([2], [2]), ([3], [3]), ([], []), ([5], [5]), ([6], [6]), ([7], [7]), ([4, 8], [4, 8]), ([9, 0, 1, 2, 3, 4, 5, 6, 7, 8, 9], [9])])
def rleft.B1 : List Nat := [0, 1, 3, 7, 15, 0, 32, 96, 224, 511, 1023]
theorem rleft.tab1 : rtab .any (opsOf Try.f54 1) = rleft.T1 := by kernel_rfl
theorem rleft.bits1 : waitsOk rleft.T1.2 rleft.B1 = true := by kernel_rfl
theorem left_any (hi g : Nat) (xs : List Int) (n : Nat) (s : Bool) (e : Int) (w : World) (h : RAt hi w g xs n s e) :
    Calls Try.prog 54 #[.pointer (some ⟨g, 0, none⟩)] w fun en w' => en = .returned (.int .i64 ((xs.length : Int) - n)) ∧ RAt hi w' g xs n s e ∧ Upd g w w' := by
  obtain ⟨h1, hn, hx, A, c, h2, h3, h4⟩ := h
  obtain ⟨⟨k0, k1, k2, k3⟩, f0, f1, f2, f3⟩ := cells4 h2
  have H2 := Aside0.mk h2
  have H4 := Aside0.mk h4
  clear h2 h4
  have hu1 := Try.underlying55
  have c1 : wrap64 ((xs.length : Int) - (n : Int)) = (xs.length : Int) - (n : Int) := wrap64_id (by omega) (by omega)
  go_enter Try.func54, Try.ntmps54
  go_wp2
  refine start_ (n := 11) (S := fun w' => w'.cell? ⟨g, 0, none⟩ = some (.slice A xs.length c) ∧ w'.cell? ⟨g, 1, none⟩ = some (.int .i64 n) ∧ w'.cell? ⟨g, 2, none⟩ = some (.bool s) ∧ Aside0 (w'.heap[g]? = some (.cells #[.slice A xs.length c, .int .i64 n, .bool s, .int .i64 e] 55 (0, 0))) ∧ Aside0 (Upd g w w')) (ds := []) (bm 11 0) (by as_aux_lemma => kernel_rfl) rfl (by as_aux_lemma => kernel_rfl) ⟨k0, k1, k2, (Aside0.mk H2.out), (Aside0.mk ⟨rfl, rfl, rfl, (Kept.refl _ _).drew⟩)⟩ (fun hHeld => ?_)
  refine with_tabW rleft.tab1 rleft.bits1 (fun HT_ HW_ => ?_)
  refine pure_ (i := 0) (N := some 3) (v := ?_) (a' := ?_) (bm 11 1) rfl rfl (any_of HT_.out (by as_aux_lemma => kernel_rfl)) (fun _ _ _ h => h) (Or.inl ⟨by rfl, ?_⟩) ?_ ?_
  rotate_left
  · intro w'
    go_simp
    with_reducible rfl
  rotate_left
  · simp only [Act.put, List.setIfInBounds_toArray, List.set_cons_zero, List.set_cons_succ, i64_w, i32_w]
    rfl
  refine pure_ (i := 1) (N := some 4) (v := ?_) (a' := ?_) (bm 11 3) rfl rfl (any_of HT_.out (by as_aux_lemma => kernel_rfl)) (fun _ _ _ h => h) (Or.inl ⟨by rfl, ?_⟩) ?_ ?_
  rotate_left
  · intro w'
    go_simp
    with_reducible rfl
  rotate_left
  · simp only [Act.put, List.setIfInBounds_toArray, List.set_cons_zero, List.set_cons_succ, i64_w, i32_w]
    rfl
  refine pure_ (i := 2) (N := some 5) (v := ?_) (a' := ?_) (bm 11 7) rfl rfl (any_of HT_.out (by as_aux_lemma => kernel_rfl)) (fun _ _ _ h => h) (Or.inl ⟨by rfl, ?_⟩) ?_ ?_
  rotate_left
  · intro w'
    go_simp
    with_reducible rfl
  rotate_left
  · simp only [Act.put, List.setIfInBounds_toArray, List.set_cons_zero, List.set_cons_succ, i64_w, i32_w]
    rfl
  refine pure_ (i := 5) (N := some 8) (v := ?_) (a' := ?_) (bm 11 39) rfl rfl (any_of HT_.out (by as_aux_lemma => kernel_rfl)) (fun _ _ _ h => h) (Or.inl ⟨by rfl, ?_⟩) ?_ ?_
  rotate_left
  · intro w'
    go_simp
    with_reducible rfl
  rotate_left
  · simp only [Act.put, List.setIfInBounds_toArray, List.set_cons_zero, List.set_cons_succ, i64_w, i32_w]
    rfl
  refine pure_ (i := 6) (N := some 9) (v := ?_) (a' := ?_) (bm 11 103) rfl rfl (any_of HT_.out (by as_aux_lemma => kernel_rfl)) (fun _ _ _ h => h) (Or.inl ⟨by rfl, ?_⟩) ?_ ?_
  rotate_left
  · intro w'
    go_simp
    with_reducible rfl
  rotate_left
  · simp only [Act.put, List.setIfInBounds_toArray, List.set_cons_zero, List.set_cons_succ, i64_w, i32_w]
    rfl
  refine pure_ (i := 7) (N := some 10) (v := ?_) (a' := ?_) (bm 11 231) rfl rfl (any_of HT_.out (by as_aux_lemma => kernel_rfl)) (fun _ _ _ h => h) (Or.inl ⟨by rfl, ?_⟩) ?_ ?_
  rotate_left
  · intro w'
    go_simp
    with_reducible rfl
  rotate_left
  · simp only [Act.put, List.setIfInBounds_toArray, List.set_cons_zero, List.set_cons_succ, i64_w, i32_w]
    rfl
  refine take_ (i := 3) (N := some 6) (v := ?_) (a' := ?_) (bm 11 239) rfl rfl (take_ofW HT_.out HW_.out (by as_aux_lemma => kernel_rfl)) (fun _ _ _ h => h) (Or.inl ⟨by rfl, ?_⟩) hHeld ?_ ?_
  rotate_left
  · rintro w' ⟨s0, s1, s2, s3, s4⟩
    go_simp
    with_reducible rfl
  rotate_left
  · simp only [Act.put, List.setIfInBounds_toArray, List.set_cons_zero, List.set_cons_succ, i64_w, i32_w]
    rfl
  refine pure_ (i := 4) (N := some 7) (v := ?_) (a' := ?_) (bm 11 255) rfl rfl (any_of HT_.out (by as_aux_lemma => kernel_rfl)) (fun _ _ _ h => h) (Or.inl ⟨by rfl, ?_⟩) ?_ ?_
  rotate_left
  · intro w'
    go_simp
    with_reducible rfl
  rotate_left
  · simp only [Act.put, List.setIfInBounds_toArray, List.set_cons_zero, List.set_cons_succ, i64_w, i32_w]
    rfl
  refine take_ (i := 8) (N := some 11) (v := ?_) (a' := ?_) (bm 11 511) rfl rfl (take_ofW HT_.out HW_.out (by as_aux_lemma => kernel_rfl)) (fun _ _ _ h => h) (Or.inl ⟨by rfl, ?_⟩) hHeld ?_ ?_
  rotate_left
  · rintro w' ⟨s0, s1, s2, s3, s4⟩
    go_simp
    with_reducible rfl
  rotate_left
  · simp only [Act.put, List.setIfInBounds_toArray, List.set_cons_zero, List.set_cons_succ, i64_w, i32_w]
    rfl
  refine pure_ (i := 9) (N := some 12) (v := ?_) (a' := ?_) (bm 11 1023) rfl rfl (any_of HT_.out (by as_aux_lemma => kernel_rfl)) (fun _ _ _ h => h) (Or.inl ⟨by rfl, ?_⟩) ?_ ?_
  rotate_left
  · intro w'
    go_simp
    with_reducible rfl
  rotate_left
  · simp only [Act.put, List.setIfInBounds_toArray, List.set_cons_zero, List.set_cons_succ, i64_w, i32_w]
    rfl
  refine pure_ (i := 10) (N := some 2) (v := ?_) (a' := ?_) (bm 11 2047) rfl rfl (any_of HT_.out (by as_aux_lemma => kernel_rfl)) (fun _ _ _ h => h) (Or.inl ⟨by rfl, ?_⟩) ?_ ?_
  rotate_left
  · intro w'
    go_simp
    with_reducible rfl
  rotate_left
  · simp only [Act.put, List.setIfInBounds_toArray, List.set_cons_zero, List.set_cons_succ, i64_w, i32_w]
    rfl
  refine done_ (done_of HT_.out (by as_aux_lemma => kernel_rfl)) ?_
  go_wp2
  go_ret
  exact ⟨rfl, ⟨h1, hn, hx, A, c, hHeld.2.2.2.1.out, h3, H4.out.on (hHeld.2.2.2.2.out.kept.mono (fun k hk => .inr (by omega)))⟩, hHeld.2.2.2.2.out⟩
def rbytes.T1 : Bool × List (List Nat × List Nat) := (true, [([], []), ([0], [0]), ([1], [1]), ([2], [2]), ([3], [3]), ([4], [4]), ([5, 4], [4, 5]), ([4, 6], [4, 6]), ([7, 4], [7]), ([8], [8]), ([8], [8]), ([10, 8], [8, 10]), ([11, 8], [8, 11]), ([12, 8], [8, 12]), ([13, 8], [8, 13]), ([8], [8]), ([15, 8], [8, 15]), ([16, 8], [8, 16]), ([17, 8], [8, 17]), ([14, 18, 8], [8, 14, 18]), ([9, 19, 8], [8, 9, 19]), ([8, 20], [8, 20])])
def rbytes.B1 : List Nat := [0, 1, 3, 7, 15, 31, 63, 127, 255, 511, 511, 1535, 3583, 7679, 15871, 511, 33279, 98815, 229887, 523775, 1048575, 2097151]
theorem rbytes.tab1 : rtab .any (opsOf Try.f51 1) = rbytes.T1 := by kernel_rfl
theorem rbytes.bits1 : waitsOk rbytes.T1.2 rbytes.B1 = true := by kernel_rfl
def rbytes.T7 : Bool × List (List Nat × List Nat) := (true, [([], []), ([0], [0]), ([1], [1]), ([2], [2]), ([], []), ([4], [4]), ([5], [5]), ([6], [6]), ([], []), ([7, 8], [7, 8]), ([], []), ([10], [10]), ([11], [11]), ([12], [12]), ([3, 9, 13], [3, 9, 13]), ([14, 0, 1, 2, 3, 4, 5, 6, 7, 8, 9, 10, 11, 12, 13, 14], [14])])
def rbytes.B7 : List Nat := [0, 1, 3, 7, 0, 16, 48, 112, 0, 496, 0, 1024, 3072, 7168, 16383, 32767]
theorem rbytes.tab7 : rtab .any (opsOf Try.f51 7) = rbytes.T7 := by kernel_rfl
theorem rbytes.bits7 : waitsOk rbytes.T7.2 rbytes.B7 = true := by kernel_rfl
theorem bytes_s (hi g : Nat) (xs : List Int) (n : Nat) (e m : Int) (w : World) (h : RAt hi w g xs n true e)  :
    Calls Try.prog 51 #[.pointer (some ⟨g, 0, none⟩), .int .i64 m] w fun en w' => en = .returned (.slice none 0 0) ∧ RAt hi w' g xs xs.length true (fstE e 2) ∧ Upd g w w' := by
  obtain ⟨h1, hn, hx, A, c, h2, h3, h4⟩ := h
  obtain ⟨⟨k0, k1, k2, k3⟩, f0, f1, f2, f3⟩ := cells4 h2
  have H2 := Aside0.mk h2
  have H4 := Aside0.mk h4
  clear h2 h4
  have hu1 := Try.underlying55
  have c1 : wrap64 ((xs.length : Int) - (n : Int)) = (xs.length : Int) - (n : Int) := wrap64_id (by omega) (by omega)
  have FIN := Aside0.mk (fun (W : World) (hW : RAt hi W g xs xs.length true e) => need_any hi g xs xs.length true e W hW 2)
  go_enter Try.func51, Try.ntmps51
  go_wp2
  refine start_ (n := 22) (S := fun w' => w'.cell? ⟨g, 0, none⟩ = some (.slice A xs.length c) ∧ w'.cell? ⟨g, 1, none⟩ = some (.int .i64 n) ∧ w'.cell? ⟨g, 2, none⟩ = some (.bool true) ∧ Aside0 (w'.heap[g]? = some (.cells #[.slice A xs.length c, .int .i64 n, .bool true, .int .i64 e] 55 (0, 0))) ∧ Aside0 (Upd g w w')) (ds := []) (bm 22 0) (by as_aux_lemma => kernel_rfl) rfl (by as_aux_lemma => kernel_rfl) ⟨k0, k1, k2, (Aside0.mk H2.out), (Aside0.mk ⟨rfl, rfl, rfl, (Kept.refl _ _).drew⟩)⟩ (fun hHeld => ?_)
  refine with_tabW rbytes.tab1 rbytes.bits1 (fun HT_ HW_ => ?_)
  refine pure_ (i := 0) (N := some 5) (v := ?_) (a' := ?_) (bm 22 1) rfl rfl (any_of HT_.out (by as_aux_lemma => kernel_rfl)) (fun _ _ _ h => h) (Or.inl ⟨by rfl, ?_⟩) ?_ ?_
  rotate_left
  · intro w'
    go_simp
    with_reducible rfl
  rotate_left
  · simp only [Act.put, List.setIfInBounds_toArray, List.set_cons_zero, List.set_cons_succ, i64_w, i32_w]
    rfl
  refine pure_ (i := 1) (N := some 6) (v := ?_) (a' := ?_) (bm 22 3) rfl rfl (any_of HT_.out (by as_aux_lemma => kernel_rfl)) (fun _ _ _ h => h) (Or.inl ⟨by rfl, ?_⟩) ?_ ?_
  rotate_left
  · intro w'
    go_simp
    with_reducible rfl
  rotate_left
  · simp only [Act.put, List.setIfInBounds_toArray, List.set_cons_zero, List.set_cons_succ, i64_w, i32_w]
    rfl
  refine pure_ (i := 2) (N := some 7) (v := ?_) (a' := ?_) (bm 22 7) rfl rfl (any_of HT_.out (by as_aux_lemma => kernel_rfl)) (fun _ _ _ h => h) (Or.inl ⟨by rfl, ?_⟩) ?_ ?_
  rotate_left
  · intro w'
    go_simp
    with_reducible rfl
  rotate_left
  · simp only [Act.put, List.setIfInBounds_toArray, List.set_cons_zero, List.set_cons_succ, i64_w, i32_w]
    rfl
  refine take_ (i := 3) (N := some 8) (v := ?_) (a' := ?_) (bm 22 15) rfl rfl (take_ofW HT_.out HW_.out (by as_aux_lemma => kernel_rfl)) (fun _ _ _ h => h) (Or.inl ⟨by rfl, ?_⟩) hHeld ?_ ?_
  rotate_left
  · rintro w' ⟨s0, s1, s2, s3, s4⟩
    go_simp
    with_reducible rfl
  rotate_left
  · simp only [Act.put, List.setIfInBounds_toArray, List.set_cons_zero, List.set_cons_succ, i64_w, i32_w]
    rfl
  refine pure_ (i := 4) (N := some 9) (v := ?_) (a' := ?_) (bm 22 31) rfl rfl (any_of HT_.out (by as_aux_lemma => kernel_rfl)) (fun _ _ _ h => h) (Or.inl ⟨by rfl, ?_⟩) ?_ ?_
  rotate_left
  · intro w'
    go_simp
    with_reducible rfl
  rotate_left
  · simp only [Act.put, List.setIfInBounds_toArray, List.set_cons_zero, List.set_cons_succ, i64_w, i32_w]
    rfl
  refine pure_ (i := 5) (N := some 10) (v := undef) (a' := ?_) (bm 22 63) rfl rfl (any_of HT_.out (by as_aux_lemma => kernel_rfl)) (fun _ _ _ h => h) (Or.inr ⟨by rfl, rfl⟩) ?_ ?_
  rotate_left
  · simp only [Act.put, List.setIfInBounds_toArray, List.set_cons_zero, List.set_cons_succ, i64_w, i32_w]
    rfl
  refine pure_ (i := 6) (N := some 11) (v := undef) (a' := ?_) (bm 22 127) rfl rfl (any_of HT_.out (by as_aux_lemma => kernel_rfl)) (fun _ _ _ h => h) (Or.inr ⟨by rfl, rfl⟩) ?_ ?_
  rotate_left
  · simp only [Act.put, List.setIfInBounds_toArray, List.set_cons_zero, List.set_cons_succ, i64_w, i32_w]
    rfl
  refine pure_ (i := 7) (N := some 12) (v := ?_) (a' := ?_) (bm 22 255) rfl rfl (any_of HT_.out (by as_aux_lemma => kernel_rfl)) (fun _ _ _ h => h) (Or.inl ⟨by rfl, ?_⟩) ?_ ?_
  rotate_left
  · intro w'
    go_simp
    with_reducible rfl
  rotate_left
  · simp only [Act.put, List.setIfInBounds_toArray, List.set_cons_zero, List.set_cons_succ, i64_w, i32_w]
    rfl
  refine pure_ (i := 8) (N := some 13) (v := ?_) (a' := ?_) (bm 22 511) rfl rfl (any_of HT_.out (by as_aux_lemma => kernel_rfl)) (fun _ _ _ h => h) (Or.inl ⟨by rfl, ?_⟩) ?_ ?_
  rotate_left
  · intro w'
    go_simp
    with_reducible rfl
  rotate_left
  · simp only [Act.put, List.setIfInBounds_toArray, List.set_cons_zero, List.set_cons_succ, i64_w, i32_w]
    rfl
  refine pure_ (i := 9) (N := some 14) (v := undef) (a' := ?_) (bm 22 1023) rfl rfl (any_of HT_.out (by as_aux_lemma => kernel_rfl)) (fun _ _ _ h => h) (Or.inr ⟨by rfl, rfl⟩) ?_ ?_
  rotate_left
  · simp only [Act.put, List.setIfInBounds_toArray, List.set_cons_zero, List.set_cons_succ, i64_w, i32_w]
    rfl
  refine pure_ (i := 10) (N := some 15) (v := undef) (a' := ?_) (bm 22 2047) rfl rfl (any_of HT_.out (by as_aux_lemma => kernel_rfl)) (fun _ _ _ h => h) (Or.inr ⟨by rfl, rfl⟩) ?_ ?_
  rotate_left
  · simp only [Act.put, List.setIfInBounds_toArray, List.set_cons_zero, List.set_cons_succ, i64_w, i32_w]
    rfl
  refine pure_ (i := 11) (N := some 16) (v := undef) (a' := ?_) (bm 22 4095) rfl rfl (any_of HT_.out (by as_aux_lemma => kernel_rfl)) (fun _ _ _ h => h) (Or.inr ⟨by rfl, rfl⟩) ?_ ?_
  rotate_left
  · simp only [Act.put, List.setIfInBounds_toArray, List.set_cons_zero, List.set_cons_succ, i64_w, i32_w]
    rfl
  refine pure_ (i := 12) (N := some 17) (v := undef) (a' := ?_) (bm 22 8191) rfl rfl (any_of HT_.out (by as_aux_lemma => kernel_rfl)) (fun _ _ _ h => h) (Or.inr ⟨by rfl, rfl⟩) ?_ ?_
  rotate_left
  · simp only [Act.put, List.setIfInBounds_toArray, List.set_cons_zero, List.set_cons_succ, i64_w, i32_w]
    rfl
  refine pure_ (i := 13) (N := some 18) (v := undef) (a' := ?_) (bm 22 16383) rfl rfl (any_of HT_.out (by as_aux_lemma => kernel_rfl)) (fun _ _ _ h => h) (Or.inr ⟨by rfl, rfl⟩) ?_ ?_
  rotate_left
  · simp only [Act.put, List.setIfInBounds_toArray, List.set_cons_zero, List.set_cons_succ, i64_w, i32_w]
    rfl
  refine pure_ (i := 14) (N := some 19) (v := undef) (a' := ?_) (bm 22 32767) rfl rfl (any_of HT_.out (by as_aux_lemma => kernel_rfl)) (fun _ _ _ h => h) (Or.inr ⟨by rfl, rfl⟩) ?_ ?_
  rotate_left
  · simp only [Act.put, List.setIfInBounds_toArray, List.set_cons_zero, List.set_cons_succ, i64_w, i32_w]
    rfl
  refine pure_ (i := 15) (N := some 20) (v := undef) (a' := ?_) (bm 22 65535) rfl rfl (any_of HT_.out (by as_aux_lemma => kernel_rfl)) (fun _ _ _ h => h) (Or.inr ⟨by rfl, rfl⟩) ?_ ?_
  rotate_left
  · simp only [Act.put, List.setIfInBounds_toArray, List.set_cons_zero, List.set_cons_succ, i64_w, i32_w]
    rfl
  refine pure_ (i := 16) (N := some 21) (v := undef) (a' := ?_) (bm 22 131071) rfl rfl (any_of HT_.out (by as_aux_lemma => kernel_rfl)) (fun _ _ _ h => h) (Or.inr ⟨by rfl, rfl⟩) ?_ ?_
  rotate_left
  · simp only [Act.put, List.setIfInBounds_toArray, List.set_cons_zero, List.set_cons_succ, i64_w, i32_w]
    rfl
  refine pure_ (i := 17) (N := some 22) (v := undef) (a' := ?_) (bm 22 262143) rfl rfl (any_of HT_.out (by as_aux_lemma => kernel_rfl)) (fun _ _ _ h => h) (Or.inr ⟨by rfl, rfl⟩) ?_ ?_
  rotate_left
  · simp only [Act.put, List.setIfInBounds_toArray, List.set_cons_zero, List.set_cons_succ, i64_w, i32_w]
    rfl
  refine pure_ (i := 18) (N := some 23) (v := undef) (a' := ?_) (bm 22 524287) rfl rfl (any_of HT_.out (by as_aux_lemma => kernel_rfl)) (fun _ _ _ h => h) (Or.inr ⟨by rfl, rfl⟩) ?_ ?_
  rotate_left
  · simp only [Act.put, List.setIfInBounds_toArray, List.set_cons_zero, List.set_cons_succ, i64_w, i32_w]
    rfl
  refine pure_ (i := 19) (N := some 24) (v := undef) (a' := ?_) (bm 22 1048575) rfl rfl (any_of HT_.out (by as_aux_lemma => kernel_rfl)) (fun _ _ _ h => h) (Or.inr ⟨by rfl, rfl⟩) ?_ ?_
  rotate_left
  · simp only [Act.put, List.setIfInBounds_toArray, List.set_cons_zero, List.set_cons_succ, i64_w, i32_w]
    rfl
  refine pure_ (i := 20) (N := some 25) (v := undef) (a' := ?_) (bm 22 2097151) rfl rfl (any_of HT_.out (by as_aux_lemma => kernel_rfl)) (fun _ _ _ h => h) (Or.inr ⟨by rfl, rfl⟩) ?_ ?_
  rotate_left
  · simp only [Act.put, List.setIfInBounds_toArray, List.set_cons_zero, List.set_cons_succ, i64_w, i32_w]
    rfl
  refine pure_ (i := 21) (N := some 26) (v := ?_) (a' := ?_) (bm 22 4194303) rfl rfl (any_of HT_.out (by as_aux_lemma => kernel_rfl)) (fun _ _ _ h => h) (Or.inl ⟨by rfl, ?_⟩) ?_ ?_
  rotate_left
  · intro w'
    go_simp
    with_reducible rfl
  rotate_left
  · simp only [Act.put, List.setIfInBounds_toArray, List.set_cons_zero, List.set_cons_succ, i64_w, i32_w]
    rfl
  refine done_ (done_of HT_.out (by as_aux_lemma => kernel_rfl)) ?_
  have hb := hHeld.2.2.2.1.out
  have hU := hHeld.2.2.2.2.out
  obtain ⟨⟨q0, q1, q2, q3⟩, p0, p1, p2, p3⟩ := cells4 hb
  clear hHeld
  generalize World.drew w = wd at *
  have HS := Aside0.mk (fun (W : World) (hW : W = (wd.setCell ⟨g, 2, none⟩ (.bool true)).setCell ⟨g, 1, none⟩ (.int .i64 xs.length)) => (by
    subst hW
    exact ⟨h1, Nat.le_refl _, hx, A, c, blk_put (blk_put hb 2 _ rfl) 1 _ rfl, h3, H4.out.on ((hU.trans ((Upd.set _ _ _ _).trans (Upd.set _ _ _ _))).kept.mono (fun k hk => .inr (by omega)))⟩ : RAt hi W g xs xs.length true e))
  have HU := Aside0.mk (hU.trans ((Upd.set wd g 2 (.bool true)).trans (Upd.set _ g 1 (.int .i64 xs.length))))
  clear hb hU
  go_wp2_with (go_at_call 25; refine (FIN.out _ ?hw).mono ?_; (case hw => exact HS.out _ rfl); rintro en w2 ⟨rfl, b1, b2⟩; have N1 := Aside0.mk b1; have N2 := Aside0.mk b2; clear b1 b2)
  go_ret
  exact ⟨rfl, N1.out, HU.out.trans N2.out⟩
theorem bytes_neg (hi g : Nat) (xs : List Int) (n : Nat) (e m : Int) (w : World) (h : RAt hi w g xs n false e) (hm : m < 0) :
    Calls Try.prog 51 #[.pointer (some ⟨g, 0, none⟩), .int .i64 m] w fun en w' => en = .returned (.slice none 0 0) ∧ RAt hi w' g xs xs.length true (fstE e 2) ∧ Upd g w w' := by
  obtain ⟨h1, hn, hx, A, c, h2, h3, h4⟩ := h
  obtain ⟨⟨k0, k1, k2, k3⟩, f0, f1, f2, f3⟩ := cells4 h2
  have H2 := Aside0.mk h2
  have H4 := Aside0.mk h4
  clear h2 h4
  have hu1 := Try.underlying55
  have d1 : decide (m < 0) = true := decide_eq_true hm
  have c1 : wrap64 ((xs.length : Int) - (n : Int)) = (xs.length : Int) - (n : Int) := wrap64_id (by omega) (by omega)
  have FIN := Aside0.mk (fun (W : World) (hW : RAt hi W g xs xs.length true e) => need_any hi g xs xs.length true e W hW 2)
  go_enter Try.func51, Try.ntmps51
  go_wp2
  refine start_ (n := 22) (S := fun w' => w'.cell? ⟨g, 0, none⟩ = some (.slice A xs.length c) ∧ w'.cell? ⟨g, 1, none⟩ = some (.int .i64 n) ∧ w'.cell? ⟨g, 2, none⟩ = some (.bool false) ∧ Aside0 (w'.heap[g]? = some (.cells #[.slice A xs.length c, .int .i64 n, .bool false, .int .i64 e] 55 (0, 0))) ∧ Aside0 (Upd g w w')) (ds := []) (bm 22 0) (by as_aux_lemma => kernel_rfl) rfl (by as_aux_lemma => kernel_rfl) ⟨k0, k1, k2, (Aside0.mk H2.out), (Aside0.mk ⟨rfl, rfl, rfl, (Kept.refl _ _).drew⟩)⟩ (fun hHeld => ?_)
  refine with_tabW rbytes.tab1 rbytes.bits1 (fun HT_ HW_ => ?_)
  refine pure_ (i := 0) (N := some 5) (v := ?_) (a' := ?_) (bm 22 1) rfl rfl (any_of HT_.out (by as_aux_lemma => kernel_rfl)) (fun _ _ _ h => h) (Or.inl ⟨by rfl, ?_⟩) ?_ ?_
  rotate_left
  · intro w'
    go_simp
    with_reducible rfl
  rotate_left
  · simp only [Act.put, List.setIfInBounds_toArray, List.set_cons_zero, List.set_cons_succ, i64_w, i32_w]
    rfl
  refine pure_ (i := 1) (N := some 6) (v := ?_) (a' := ?_) (bm 22 3) rfl rfl (any_of HT_.out (by as_aux_lemma => kernel_rfl)) (fun _ _ _ h => h) (Or.inl ⟨by rfl, ?_⟩) ?_ ?_
  rotate_left
  · intro w'
    go_simp
    with_reducible rfl
  rotate_left
  · simp only [Act.put, List.setIfInBounds_toArray, List.set_cons_zero, List.set_cons_succ, i64_w, i32_w]
    rfl
  refine pure_ (i := 2) (N := some 7) (v := ?_) (a' := ?_) (bm 22 7) rfl rfl (any_of HT_.out (by as_aux_lemma => kernel_rfl)) (fun _ _ _ h => h) (Or.inl ⟨by rfl, ?_⟩) ?_ ?_
  rotate_left
  · intro w'
    go_simp
    with_reducible rfl
  rotate_left
  · simp only [Act.put, List.setIfInBounds_toArray, List.set_cons_zero, List.set_cons_succ, i64_w, i32_w]
    rfl
  refine take_ (i := 3) (N := some 8) (v := ?_) (a' := ?_) (bm 22 15) rfl rfl (take_ofW HT_.out HW_.out (by as_aux_lemma => kernel_rfl)) (fun _ _ _ h => h) (Or.inl ⟨by rfl, ?_⟩) hHeld ?_ ?_
  rotate_left
  · rintro w' ⟨s0, s1, s2, s3, s4⟩
    go_simp
    with_reducible rfl
  rotate_left
  · simp only [Act.put, List.setIfInBounds_toArray, List.set_cons_zero, List.set_cons_succ, i64_w, i32_w]
    rfl
  refine pure_ (i := 4) (N := some 9) (v := ?_) (a' := ?_) (bm 22 31) rfl rfl (any_of HT_.out (by as_aux_lemma => kernel_rfl)) (fun _ _ _ h => h) (Or.inl ⟨by rfl, ?_⟩) ?_ ?_
  rotate_left
  · intro w'
    go_simp
    with_reducible rfl
  rotate_left
  · simp only [Act.put, List.setIfInBounds_toArray, List.set_cons_zero, List.set_cons_succ, i64_w, i32_w]
    rfl
  refine pure_ (i := 5) (N := some 10) (v := ?_) (a' := ?_) (bm 22 63) rfl rfl (any_of HT_.out (by as_aux_lemma => kernel_rfl)) (fun _ _ _ h => h) (Or.inl ⟨by rfl, ?_⟩) ?_ ?_
  rotate_left
  · intro w'
    go_simp
    with_reducible rfl
  rotate_left
  · simp only [Act.put, List.setIfInBounds_toArray, List.set_cons_zero, List.set_cons_succ, i64_w, i32_w]
    rfl
  refine pure_ (i := 6) (N := some 11) (v := ?_) (a' := ?_) (bm 22 127) rfl rfl (any_of HT_.out (by as_aux_lemma => kernel_rfl)) (fun _ _ _ h => h) (Or.inl ⟨by rfl, ?_⟩) ?_ ?_
  rotate_left
  · intro w'
    go_simp
    with_reducible rfl
  rotate_left
  · simp only [Act.put, List.setIfInBounds_toArray, List.set_cons_zero, List.set_cons_succ, i64_w, i32_w]
    rfl
  refine pure_ (i := 7) (N := some 12) (v := ?_) (a' := ?_) (bm 22 255) rfl rfl (any_of HT_.out (by as_aux_lemma => kernel_rfl)) (fun _ _ _ h => h) (Or.inl ⟨by rfl, ?_⟩) ?_ ?_
  rotate_left
  · intro w'
    go_simp
    with_reducible rfl
  rotate_left
  · simp only [Act.put, List.setIfInBounds_toArray, List.set_cons_zero, List.set_cons_succ, i64_w, i32_w]
    rfl
  refine pure_ (i := 8) (N := some 13) (v := ?_) (a' := ?_) (bm 22 511) rfl rfl (any_of HT_.out (by as_aux_lemma => kernel_rfl)) (fun _ _ _ h => h) (Or.inl ⟨by rfl, ?_⟩) ?_ ?_
  rotate_left
  · intro w'
    go_simp
    with_reducible rfl
  rotate_left
  · simp only [Act.put, List.setIfInBounds_toArray, List.set_cons_zero, List.set_cons_succ, i64_w, i32_w]
    rfl
  refine pure_ (i := 9) (N := some 14) (v := undef) (a' := ?_) (bm 22 1023) rfl rfl (any_of HT_.out (by as_aux_lemma => kernel_rfl)) (fun _ _ _ h => h) (Or.inr ⟨by rfl, rfl⟩) ?_ ?_
  rotate_left
  · simp only [Act.put, List.setIfInBounds_toArray, List.set_cons_zero, List.set_cons_succ, i64_w, i32_w]
    rfl
  refine pure_ (i := 10) (N := some 15) (v := undef) (a' := ?_) (bm 22 2047) rfl rfl (any_of HT_.out (by as_aux_lemma => kernel_rfl)) (fun _ _ _ h => h) (Or.inr ⟨by rfl, rfl⟩) ?_ ?_
  rotate_left
  · simp only [Act.put, List.setIfInBounds_toArray, List.set_cons_zero, List.set_cons_succ, i64_w, i32_w]
    rfl
  refine pure_ (i := 11) (N := some 16) (v := undef) (a' := ?_) (bm 22 4095) rfl rfl (any_of HT_.out (by as_aux_lemma => kernel_rfl)) (fun _ _ _ h => h) (Or.inr ⟨by rfl, rfl⟩) ?_ ?_
  rotate_left
  · simp only [Act.put, List.setIfInBounds_toArray, List.set_cons_zero, List.set_cons_succ, i64_w, i32_w]
    rfl
  refine pure_ (i := 12) (N := some 17) (v := undef) (a' := ?_) (bm 22 8191) rfl rfl (any_of HT_.out (by as_aux_lemma => kernel_rfl)) (fun _ _ _ h => h) (Or.inr ⟨by rfl, rfl⟩) ?_ ?_
  rotate_left
  · simp only [Act.put, List.setIfInBounds_toArray, List.set_cons_zero, List.set_cons_succ, i64_w, i32_w]
    rfl
  refine pure_ (i := 13) (N := some 18) (v := undef) (a' := ?_) (bm 22 16383) rfl rfl (any_of HT_.out (by as_aux_lemma => kernel_rfl)) (fun _ _ _ h => h) (Or.inr ⟨by rfl, rfl⟩) ?_ ?_
  rotate_left
  · simp only [Act.put, List.setIfInBounds_toArray, List.set_cons_zero, List.set_cons_succ, i64_w, i32_w]
    rfl
  refine pure_ (i := 14) (N := some 19) (v := undef) (a' := ?_) (bm 22 32767) rfl rfl (any_of HT_.out (by as_aux_lemma => kernel_rfl)) (fun _ _ _ h => h) (Or.inr ⟨by rfl, rfl⟩) ?_ ?_
  rotate_left
  · simp only [Act.put, List.setIfInBounds_toArray, List.set_cons_zero, List.set_cons_succ, i64_w, i32_w]
    rfl
  refine pure_ (i := 15) (N := some 20) (v := undef) (a' := ?_) (bm 22 65535) rfl rfl (any_of HT_.out (by as_aux_lemma => kernel_rfl)) (fun _ _ _ h => h) (Or.inr ⟨by rfl, rfl⟩) ?_ ?_
  rotate_left
  · simp only [Act.put, List.setIfInBounds_toArray, List.set_cons_zero, List.set_cons_succ, i64_w, i32_w]
    rfl
  refine pure_ (i := 16) (N := some 21) (v := undef) (a' := ?_) (bm 22 131071) rfl rfl (any_of HT_.out (by as_aux_lemma => kernel_rfl)) (fun _ _ _ h => h) (Or.inr ⟨by rfl, rfl⟩) ?_ ?_
  rotate_left
  · simp only [Act.put, List.setIfInBounds_toArray, List.set_cons_zero, List.set_cons_succ, i64_w, i32_w]
    rfl
  refine pure_ (i := 17) (N := some 22) (v := undef) (a' := ?_) (bm 22 262143) rfl rfl (any_of HT_.out (by as_aux_lemma => kernel_rfl)) (fun _ _ _ h => h) (Or.inr ⟨by rfl, rfl⟩) ?_ ?_
  rotate_left
  · simp only [Act.put, List.setIfInBounds_toArray, List.set_cons_zero, List.set_cons_succ, i64_w, i32_w]
    rfl
  refine pure_ (i := 18) (N := some 23) (v := undef) (a' := ?_) (bm 22 524287) rfl rfl (any_of HT_.out (by as_aux_lemma => kernel_rfl)) (fun _ _ _ h => h) (Or.inr ⟨by rfl, rfl⟩) ?_ ?_
  rotate_left
  · simp only [Act.put, List.setIfInBounds_toArray, List.set_cons_zero, List.set_cons_succ, i64_w, i32_w]
    rfl
  refine pure_ (i := 19) (N := some 24) (v := undef) (a' := ?_) (bm 22 1048575) rfl rfl (any_of HT_.out (by as_aux_lemma => kernel_rfl)) (fun _ _ _ h => h) (Or.inr ⟨by rfl, rfl⟩) ?_ ?_
  rotate_left
  · simp only [Act.put, List.setIfInBounds_toArray, List.set_cons_zero, List.set_cons_succ, i64_w, i32_w]
    rfl
  refine pure_ (i := 20) (N := some 25) (v := undef) (a' := ?_) (bm 22 2097151) rfl rfl (any_of HT_.out (by as_aux_lemma => kernel_rfl)) (fun _ _ _ h => h) (Or.inr ⟨by rfl, rfl⟩) ?_ ?_
  rotate_left
  · simp only [Act.put, List.setIfInBounds_toArray, List.set_cons_zero, List.set_cons_succ, i64_w, i32_w]
    rfl
  refine pure_ (i := 21) (N := some 26) (v := ?_) (a' := ?_) (bm 22 4194303) rfl rfl (any_of HT_.out (by as_aux_lemma => kernel_rfl)) (fun _ _ _ h => h) (Or.inl ⟨by rfl, ?_⟩) ?_ ?_
  rotate_left
  · intro w'
    go_simp
    with_reducible rfl
  rotate_left
  · simp only [Act.put, List.setIfInBounds_toArray, List.set_cons_zero, List.set_cons_succ, i64_w, i32_w]
    rfl
  refine done_ (done_of HT_.out (by as_aux_lemma => kernel_rfl)) ?_
  have hb := hHeld.2.2.2.1.out
  have hU := hHeld.2.2.2.2.out
  obtain ⟨⟨q0, q1, q2, q3⟩, p0, p1, p2, p3⟩ := cells4 hb
  clear hHeld
  generalize World.drew w = wd at *
  have HS := Aside0.mk (fun (W : World) (hW : W = (wd.setCell ⟨g, 2, none⟩ (.bool true)).setCell ⟨g, 1, none⟩ (.int .i64 xs.length)) => (by
    subst hW
    exact ⟨h1, Nat.le_refl _, hx, A, c, blk_put (blk_put hb 2 _ rfl) 1 _ rfl, h3, H4.out.on ((hU.trans ((Upd.set _ _ _ _).trans (Upd.set _ _ _ _))).kept.mono (fun k hk => .inr (by omega)))⟩ : RAt hi W g xs xs.length true e))
  have HU := Aside0.mk (hU.trans ((Upd.set wd g 2 (.bool true)).trans (Upd.set _ g 1 (.int .i64 xs.length))))
  clear hb hU
  go_wp2_with (go_at_call 25; refine (FIN.out _ ?hw).mono ?_; (case hw => exact HS.out _ rfl); rintro en w2 ⟨rfl, b1, b2⟩; have N1 := Aside0.mk b1; have N2 := Aside0.mk b2; clear b1 b2)
  go_ret
  exact ⟨rfl, N1.out, HU.out.trans N2.out⟩
theorem bytes_over (hi g : Nat) (xs : List Int) (n : Nat) (e m : Int) (w : World) (h : RAt hi w g xs n false e) (hm : ¬ m < 0) (ho : (xs.length : Int) - n < m) :
    Calls Try.prog 51 #[.pointer (some ⟨g, 0, none⟩), .int .i64 m] w fun en w' => en = .returned (.slice none 0 0) ∧ RAt hi w' g xs xs.length true (fstE e 2) ∧ Upd g w w' := by
  obtain ⟨h1, hn, hx, A, c, h2, h3, h4⟩ := h
  obtain ⟨⟨k0, k1, k2, k3⟩, f0, f1, f2, f3⟩ := cells4 h2
  have H2 := Aside0.mk h2
  have H4 := Aside0.mk h4
  clear h2 h4
  have hu1 := Try.underlying55
  have d1 : decide (m < 0) = false := decide_eq_false hm
  have d2 : decide (m > (xs.length : Int) - (n : Int)) = true := decide_eq_true ho
  have d3 : decide ((xs.length : Int) - (n : Int) < m) = true := decide_eq_true ho
  have c1 : wrap64 ((xs.length : Int) - (n : Int)) = (xs.length : Int) - (n : Int) := wrap64_id (by omega) (by omega)
  have FIN := Aside0.mk (fun (W : World) (hW : RAt hi W g xs xs.length true e) => need_any hi g xs xs.length true e W hW 2)
  go_enter Try.func51, Try.ntmps51
  go_wp2
  refine start_ (n := 22) (S := fun w' => w'.cell? ⟨g, 0, none⟩ = some (.slice A xs.length c) ∧ w'.cell? ⟨g, 1, none⟩ = some (.int .i64 n) ∧ w'.cell? ⟨g, 2, none⟩ = some (.bool false) ∧ Aside0 (w'.heap[g]? = some (.cells #[.slice A xs.length c, .int .i64 n, .bool false, .int .i64 e] 55 (0, 0))) ∧ Aside0 (Upd g w w')) (ds := []) (bm 22 0) (by as_aux_lemma => kernel_rfl) rfl (by as_aux_lemma => kernel_rfl) ⟨k0, k1, k2, (Aside0.mk H2.out), (Aside0.mk ⟨rfl, rfl, rfl, (Kept.refl _ _).drew⟩)⟩ (fun hHeld => ?_)
  refine with_tabW rbytes.tab1 rbytes.bits1 (fun HT_ HW_ => ?_)
  refine pure_ (i := 0) (N := some 5) (v := ?_) (a' := ?_) (bm 22 1) rfl rfl (any_of HT_.out (by as_aux_lemma => kernel_rfl)) (fun _ _ _ h => h) (Or.inl ⟨by rfl, ?_⟩) ?_ ?_
  rotate_left
  · intro w'
    go_simp
    with_reducible rfl
  rotate_left
  · simp only [Act.put, List.setIfInBounds_toArray, List.set_cons_zero, List.set_cons_succ, i64_w, i32_w]
    rfl
  refine pure_ (i := 1) (N := some 6) (v := ?_) (a' := ?_) (bm 22 3) rfl rfl (any_of HT_.out (by as_aux_lemma => kernel_rfl)) (fun _ _ _ h => h) (Or.inl ⟨by rfl, ?_⟩) ?_ ?_
  rotate_left
  · intro w'
    go_simp
    with_reducible rfl
  rotate_left
  · simp only [Act.put, List.setIfInBounds_toArray, List.set_cons_zero, List.set_cons_succ, i64_w, i32_w]
    rfl
  refine pure_ (i := 2) (N := some 7) (v := ?_) (a' := ?_) (bm 22 7) rfl rfl (any_of HT_.out (by as_aux_lemma => kernel_rfl)) (fun _ _ _ h => h) (Or.inl ⟨by rfl, ?_⟩) ?_ ?_
  rotate_left
  · intro w'
    go_simp
    with_reducible rfl
  rotate_left
  · simp only [Act.put, List.setIfInBounds_toArray, List.set_cons_zero, List.set_cons_succ, i64_w, i32_w]
    rfl
  refine take_ (i := 3) (N := some 8) (v := ?_) (a' := ?_) (bm 22 15) rfl rfl (take_ofW HT_.out HW_.out (by as_aux_lemma => kernel_rfl)) (fun _ _ _ h => h) (Or.inl ⟨by rfl, ?_⟩) hHeld ?_ ?_
  rotate_left
  · rintro w' ⟨s0, s1, s2, s3, s4⟩
    go_simp
    with_reducible rfl
  rotate_left
  · simp only [Act.put, List.setIfInBounds_toArray, List.set_cons_zero, List.set_cons_succ, i64_w, i32_w]
    rfl
  refine pure_ (i := 4) (N := some 9) (v := ?_) (a' := ?_) (bm 22 31) rfl rfl (any_of HT_.out (by as_aux_lemma => kernel_rfl)) (fun _ _ _ h => h) (Or.inl ⟨by rfl, ?_⟩) ?_ ?_
  rotate_left
  · intro w'
    go_simp
    with_reducible rfl
  rotate_left
  · simp only [Act.put, List.setIfInBounds_toArray, List.set_cons_zero, List.set_cons_succ, i64_w, i32_w]
    rfl
  refine pure_ (i := 5) (N := some 10) (v := ?_) (a' := ?_) (bm 22 63) rfl rfl (any_of HT_.out (by as_aux_lemma => kernel_rfl)) (fun _ _ _ h => h) (Or.inl ⟨by rfl, ?_⟩) ?_ ?_
  rotate_left
  · intro w'
    go_simp
    with_reducible rfl
  rotate_left
  · simp only [Act.put, List.setIfInBounds_toArray, List.set_cons_zero, List.set_cons_succ, i64_w, i32_w]
    rfl
  refine pure_ (i := 6) (N := some 11) (v := ?_) (a' := ?_) (bm 22 127) rfl rfl (any_of HT_.out (by as_aux_lemma => kernel_rfl)) (fun _ _ _ h => h) (Or.inl ⟨by rfl, ?_⟩) ?_ ?_
  rotate_left
  · intro w'
    go_simp
    with_reducible rfl
  rotate_left
  · simp only [Act.put, List.setIfInBounds_toArray, List.set_cons_zero, List.set_cons_succ, i64_w, i32_w]
    rfl
  refine pure_ (i := 7) (N := some 12) (v := ?_) (a' := ?_) (bm 22 255) rfl rfl (any_of HT_.out (by as_aux_lemma => kernel_rfl)) (fun _ _ _ h => h) (Or.inl ⟨by rfl, ?_⟩) ?_ ?_
  rotate_left
  · intro w'
    go_simp
    with_reducible rfl
  rotate_left
  · simp only [Act.put, List.setIfInBounds_toArray, List.set_cons_zero, List.set_cons_succ, i64_w, i32_w]
    rfl
  refine pure_ (i := 8) (N := some 13) (v := ?_) (a' := ?_) (bm 22 511) rfl rfl (any_of HT_.out (by as_aux_lemma => kernel_rfl)) (fun _ _ _ h => h) (Or.inl ⟨by rfl, ?_⟩) ?_ ?_
  rotate_left
  · intro w'
    go_simp
    with_reducible rfl
  rotate_left
  · simp only [Act.put, List.setIfInBounds_toArray, List.set_cons_zero, List.set_cons_succ, i64_w, i32_w]
    rfl
  refine pure_ (i := 9) (N := some 14) (v := ?_) (a' := ?_) (bm 22 1023) rfl rfl (any_of HT_.out (by as_aux_lemma => kernel_rfl)) (fun _ _ _ h => h) (Or.inl ⟨by rfl, ?_⟩) ?_ ?_
  rotate_left
  · intro w'
    go_simp
    with_reducible rfl
  rotate_left
  · simp only [Act.put, List.setIfInBounds_toArray, List.set_cons_zero, List.set_cons_succ, i64_w, i32_w]
    rfl
  refine pure_ (i := 10) (N := some 15) (v := ?_) (a' := ?_) (bm 22 2047) rfl rfl (any_of HT_.out (by as_aux_lemma => kernel_rfl)) (fun _ _ _ h => h) (Or.inl ⟨by rfl, ?_⟩) ?_ ?_
  rotate_left
  · intro w'
    go_simp
    with_reducible rfl
  rotate_left
  · simp only [Act.put, List.setIfInBounds_toArray, List.set_cons_zero, List.set_cons_succ, i64_w, i32_w]
    rfl
  refine pure_ (i := 11) (N := some 16) (v := ?_) (a' := ?_) (bm 22 4095) rfl rfl (any_of HT_.out (by as_aux_lemma => kernel_rfl)) (fun _ _ _ h => h) (Or.inl ⟨by rfl, ?_⟩) ?_ ?_
  rotate_left
  · intro w'
    go_simp
    with_reducible rfl
  rotate_left
  · simp only [Act.put, List.setIfInBounds_toArray, List.set_cons_zero, List.set_cons_succ, i64_w, i32_w]
    rfl
  refine pure_ (i := 12) (N := some 17) (v := ?_) (a' := ?_) (bm 22 8191) rfl rfl (any_of HT_.out (by as_aux_lemma => kernel_rfl)) (fun _ _ _ h => h) (Or.inl ⟨by rfl, ?_⟩) ?_ ?_
  rotate_left
  · intro w'
    go_simp
    with_reducible rfl
  rotate_left
  · simp only [Act.put, List.setIfInBounds_toArray, List.set_cons_zero, List.set_cons_succ, i64_w, i32_w]
    rfl
  refine pure_ (i := 15) (N := some 20) (v := ?_) (a' := ?_) (bm 22 40959) rfl rfl (any_of HT_.out (by as_aux_lemma => kernel_rfl)) (fun _ _ _ h => h) (Or.inl ⟨by rfl, ?_⟩) ?_ ?_
  rotate_left
  · intro w'
    go_simp
    with_reducible rfl
  rotate_left
  · simp only [Act.put, List.setIfInBounds_toArray, List.set_cons_zero, List.set_cons_succ, i64_w, i32_w]
    rfl
  refine pure_ (i := 16) (N := some 21) (v := ?_) (a' := ?_) (bm 22 106495) rfl rfl (any_of HT_.out (by as_aux_lemma => kernel_rfl)) (fun _ _ _ h => h) (Or.inl ⟨by rfl, ?_⟩) ?_ ?_
  rotate_left
  · intro w'
    go_simp
    with_reducible rfl
  rotate_left
  · simp only [Act.put, List.setIfInBounds_toArray, List.set_cons_zero, List.set_cons_succ, i64_w, i32_w]
    rfl
  refine pure_ (i := 17) (N := some 22) (v := ?_) (a' := ?_) (bm 22 237567) rfl rfl (any_of HT_.out (by as_aux_lemma => kernel_rfl)) (fun _ _ _ h => h) (Or.inl ⟨by rfl, ?_⟩) ?_ ?_
  rotate_left
  · intro w'
    go_simp
    with_reducible rfl
  rotate_left
  · simp only [Act.put, List.setIfInBounds_toArray, List.set_cons_zero, List.set_cons_succ, i64_w, i32_w]
    rfl
  refine take_ (i := 13) (N := some 18) (v := ?_) (a' := ?_) (bm 22 245759) rfl rfl (take_ofW HT_.out HW_.out (by as_aux_lemma => kernel_rfl)) (fun _ _ _ h => h) (Or.inl ⟨by rfl, ?_⟩) hHeld ?_ ?_
  rotate_left
  · rintro w' ⟨s0, s1, s2, s3, s4⟩
    go_simp
    with_reducible rfl
  rotate_left
  · simp only [Act.put, List.setIfInBounds_toArray, List.set_cons_zero, List.set_cons_succ, i64_w, i32_w]
    rfl
  refine pure_ (i := 14) (N := some 19) (v := ?_) (a' := ?_) (bm 22 262143) rfl rfl (any_of HT_.out (by as_aux_lemma => kernel_rfl)) (fun _ _ _ h => h) (Or.inl ⟨by rfl, ?_⟩) ?_ ?_
  rotate_left
  · intro w'
    go_simp
    with_reducible rfl
  rotate_left
  · simp only [Act.put, List.setIfInBounds_toArray, List.set_cons_zero, List.set_cons_succ, i64_w, i32_w]
    rfl
  refine take_ (i := 18) (N := some 23) (v := ?_) (a' := ?_) (bm 22 524287) rfl rfl (take_ofW HT_.out HW_.out (by as_aux_lemma => kernel_rfl)) (fun _ _ _ h => h) (Or.inl ⟨by rfl, ?_⟩) hHeld ?_ ?_
  rotate_left
  · rintro w' ⟨s0, s1, s2, s3, s4⟩
    go_simp
    with_reducible rfl
  rotate_left
  · simp only [Act.put, List.setIfInBounds_toArray, List.set_cons_zero, List.set_cons_succ, i64_w, i32_w]
    rfl
  refine pure_ (i := 19) (N := some 24) (v := ?_) (a' := ?_) (bm 22 1048575) rfl rfl (any_of HT_.out (by as_aux_lemma => kernel_rfl)) (fun _ _ _ h => h) (Or.inl ⟨by rfl, ?_⟩) ?_ ?_
  rotate_left
  · intro w'
    go_simp
    with_reducible rfl
  rotate_left
  · simp only [Act.put, List.setIfInBounds_toArray, List.set_cons_zero, List.set_cons_succ, i64_w, i32_w]
    rfl
  refine pure_ (i := 20) (N := some 25) (v := ?_) (a' := ?_) (bm 22 2097151) rfl rfl (any_of HT_.out (by as_aux_lemma => kernel_rfl)) (fun _ _ _ h => h) (Or.inl ⟨by rfl, ?_⟩) ?_ ?_
  rotate_left
  · intro w'
    go_simp
    with_reducible rfl
  rotate_left
  · simp only [Act.put, List.setIfInBounds_toArray, List.set_cons_zero, List.set_cons_succ, i64_w, i32_w]
    rfl
  refine pure_ (i := 21) (N := some 26) (v := ?_) (a' := ?_) (bm 22 4194303) rfl rfl (any_of HT_.out (by as_aux_lemma => kernel_rfl)) (fun _ _ _ h => h) (Or.inl ⟨by rfl, ?_⟩) ?_ ?_
  rotate_left
  · intro w'
    go_simp
    with_reducible rfl
  rotate_left
  · simp only [Act.put, List.setIfInBounds_toArray, List.set_cons_zero, List.set_cons_succ, i64_w, i32_w]
    rfl
  refine done_ (done_of HT_.out (by as_aux_lemma => kernel_rfl)) ?_
  have hb := hHeld.2.2.2.1.out
  have hU := hHeld.2.2.2.2.out
  obtain ⟨⟨q0, q1, q2, q3⟩, p0, p1, p2, p3⟩ := cells4 hb
  clear hHeld
  generalize World.drew w = wd at *
  have HS := Aside0.mk (fun (W : World) (hW : W = (wd.setCell ⟨g, 2, none⟩ (.bool true)).setCell ⟨g, 1, none⟩ (.int .i64 xs.length)) => (by
    subst hW
    exact ⟨h1, Nat.le_refl _, hx, A, c, blk_put (blk_put hb 2 _ rfl) 1 _ rfl, h3, H4.out.on ((hU.trans ((Upd.set _ _ _ _).trans (Upd.set _ _ _ _))).kept.mono (fun k hk => .inr (by omega)))⟩ : RAt hi W g xs xs.length true e))
  have HU := Aside0.mk (hU.trans ((Upd.set wd g 2 (.bool true)).trans (Upd.set _ g 1 (.int .i64 xs.length))))
  clear hb hU
  go_wp2_with (go_at_call 25; refine (FIN.out _ ?hw).mono ?_; (case hw => exact HS.out _ rfl); rintro en w2 ⟨rfl, b1, b2⟩; have N1 := Aside0.mk b1; have N2 := Aside0.mk b2; clear b1 b2)
  go_ret
  exact ⟨rfl, N1.out, HU.out.trans N2.out⟩
theorem bytes_ok (hi g : Nat) (xs : List Int) (n : Nat) (e : Int) (m : Nat) (w : World) (h : RAt hi w g xs n false e) (hm : m ≤ xs.length - n) :
    Calls Try.prog 51 #[.pointer (some ⟨g, 0, none⟩), .int .i64 m] w fun en w' => ∃ A' c', en = .returned (.slice A' ((xs.drop n).take m).length c') ∧ ((xs.drop n).take m).length ≤ c' ∧ Row 0 hi w' A' ((xs.drop n).take m) ∧ RAt hi w' g xs (n + m) false e ∧ Upd g w w' := by
  obtain ⟨h1, hn, hx, A, c, h2, h3, h4⟩ := h
  obtain ⟨⟨k0, k1, k2, k3⟩, f0, f1, f2, f3⟩ := cells4 h2
  have H2 := Aside0.mk h2
  have H4 := Aside0.mk h4
  clear h2 h4
  have hu1 := Try.underlying55
  have c1 : wrap64 ((xs.length : Int) - (n : Int)) = (xs.length : Int) - (n : Int) := wrap64_id (by omega) (by omega)
  have d1 : decide ((m : Int) < 0) = false := decide_eq_false (by omega)
  have d2 : decide ((m : Int) > (xs.length : Int) - (n : Int)) = false := decide_eq_false (by omega)
  have d3 : decide ((xs.length : Int) - (n : Int) < (m : Int)) = false := decide_eq_false (by omega)
  have c2 : wrap64 ((n : Int) + (m : Int)) = (n : Int) + (m : Int) := wrap64_id (by omega) (by omega)
  have c3 : wrap64 ((n : Int) + (m : Int) - (m : Int)) = (n : Int) := by rw [wrap64_id (by omega) (by omega)]; omega
  have c5 : wrap64 (n : Int) = (n : Int) := wrap64_id (by omega) (by omega)
  have c4 : (n : Int) + (m : Int) - (m : Int) = (n : Int) := by omega
  clear c3
  obtain ⟨i, hi1, hi2⟩ := u8_info
  have cut := cut_mid 22 5 .i64 .i64 Try.underlying22 hi1 1 hi2 A xs.length c (n : Int) ((n : Int) + (m : Int)) (by omega) (by omega) (by omega) h3
  have hl : ((xs.drop n).take m).length = m := by rw [List.length_take, List.length_drop]; omega
  have hZt : ((n : Int) + (m : Int)).toNat = n + m := by omega
  have hZm : n + m - n = m := by omega
  rw [hZt, Int.toNat_natCast, hZm] at cut
  obtain ⟨A2, hA2⟩ : ∃ A2, A2 = if c = n then A else A.map fun x => x.add (n * 1) := ⟨_, rfl⟩
  rw [← hA2] at cut
  have HR : ∀ W', Kept w W' (fun k => k < 0 ∨ hi ≤ k) → Kd.C (Kd.int .u8) W' A2 ((xs.drop n).take m).length ((xs.drop n).take m) := fun W' hk => Kd.C_take (by have := Kd.C_drop (H4.out W' hk) hn h3; rw [hA2]; exact this) (by rw [List.length_drop]; omega)
  have HRR := Aside0.mk HR
  have hcn : m ≤ c - n := by omega
  clear HR hA2 hi1 hZm hZt
  rw [hl]
  go_enter Try.func51, Try.ntmps51
  go_wp2
  refine start_ (n := 22) (S := fun w' => w'.cell? ⟨g, 0, none⟩ = some (.slice A xs.length c) ∧ w'.cell? ⟨g, 1, none⟩ = some (.int .i64 n) ∧ w'.cell? ⟨g, 2, none⟩ = some (.bool false) ∧ Aside0 (w'.heap[g]? = some (.cells #[.slice A xs.length c, .int .i64 n, .bool false, .int .i64 e] 55 (0, 0))) ∧ Aside0 (Upd g w w')) (ds := []) (bm 22 0) (by as_aux_lemma => kernel_rfl) rfl (by as_aux_lemma => kernel_rfl) ⟨k0, k1, k2, (Aside0.mk H2.out), (Aside0.mk ⟨rfl, rfl, rfl, (Kept.refl _ _).drew⟩)⟩ (fun hHeld => ?_)
  refine with_tabW rbytes.tab1 rbytes.bits1 (fun HT_ HW_ => ?_)
  refine pure_ (i := 0) (N := some 5) (v := ?_) (a' := ?_) (bm 22 1) rfl rfl (any_of HT_.out (by as_aux_lemma => kernel_rfl)) (fun _ _ _ h => h) (Or.inl ⟨by rfl, ?_⟩) ?_ ?_
  rotate_left
  · intro w'
    go_simp
    with_reducible rfl
  rotate_left
  · simp only [Act.put, List.setIfInBounds_toArray, List.set_cons_zero, List.set_cons_succ, i64_w, i32_w]
    rfl
  refine pure_ (i := 1) (N := some 6) (v := ?_) (a' := ?_) (bm 22 3) rfl rfl (any_of HT_.out (by as_aux_lemma => kernel_rfl)) (fun _ _ _ h => h) (Or.inl ⟨by rfl, ?_⟩) ?_ ?_
  rotate_left
  · intro w'
    go_simp
    with_reducible rfl
  rotate_left
  · simp only [Act.put, List.setIfInBounds_toArray, List.set_cons_zero, List.set_cons_succ, i64_w, i32_w]
    rfl
  refine pure_ (i := 2) (N := some 7) (v := ?_) (a' := ?_) (bm 22 7) rfl rfl (any_of HT_.out (by as_aux_lemma => kernel_rfl)) (fun _ _ _ h => h) (Or.inl ⟨by rfl, ?_⟩) ?_ ?_
  rotate_left
  · intro w'
    go_simp
    with_reducible rfl
  rotate_left
  · simp only [Act.put, List.setIfInBounds_toArray, List.set_cons_zero, List.set_cons_succ, i64_w, i32_w]
    rfl
  refine take_ (i := 3) (N := some 8) (v := ?_) (a' := ?_) (bm 22 15) rfl rfl (take_ofW HT_.out HW_.out (by as_aux_lemma => kernel_rfl)) (fun _ _ _ h => h) (Or.inl ⟨by rfl, ?_⟩) hHeld ?_ ?_
  rotate_left
  · rintro w' ⟨s0, s1, s2, s3, s4⟩
    go_simp
    with_reducible rfl
  rotate_left
  · simp only [Act.put, List.setIfInBounds_toArray, List.set_cons_zero, List.set_cons_succ, i64_w, i32_w]
    rfl
  refine pure_ (i := 4) (N := some 9) (v := ?_) (a' := ?_) (bm 22 31) rfl rfl (any_of HT_.out (by as_aux_lemma => kernel_rfl)) (fun _ _ _ h => h) (Or.inl ⟨by rfl, ?_⟩) ?_ ?_
  rotate_left
  · intro w'
    go_simp
    with_reducible rfl
  rotate_left
  · simp only [Act.put, List.setIfInBounds_toArray, List.set_cons_zero, List.set_cons_succ, i64_w, i32_w]
    rfl
  refine pure_ (i := 5) (N := some 10) (v := ?_) (a' := ?_) (bm 22 63) rfl rfl (any_of HT_.out (by as_aux_lemma => kernel_rfl)) (fun _ _ _ h => h) (Or.inl ⟨by rfl, ?_⟩) ?_ ?_
  rotate_left
  · intro w'
    go_simp
    with_reducible rfl
  rotate_left
  · simp only [Act.put, List.setIfInBounds_toArray, List.set_cons_zero, List.set_cons_succ, i64_w, i32_w]
    rfl
  refine pure_ (i := 6) (N := some 11) (v := ?_) (a' := ?_) (bm 22 127) rfl rfl (any_of HT_.out (by as_aux_lemma => kernel_rfl)) (fun _ _ _ h => h) (Or.inl ⟨by rfl, ?_⟩) ?_ ?_
  rotate_left
  · intro w'
    go_simp
    with_reducible rfl
  rotate_left
  · simp only [Act.put, List.setIfInBounds_toArray, List.set_cons_zero, List.set_cons_succ, i64_w, i32_w]
    rfl
  refine pure_ (i := 7) (N := some 12) (v := ?_) (a' := ?_) (bm 22 255) rfl rfl (any_of HT_.out (by as_aux_lemma => kernel_rfl)) (fun _ _ _ h => h) (Or.inl ⟨by rfl, ?_⟩) ?_ ?_
  rotate_left
  · intro w'
    go_simp
    with_reducible rfl
  rotate_left
  · simp only [Act.put, List.setIfInBounds_toArray, List.set_cons_zero, List.set_cons_succ, i64_w, i32_w]
    rfl
  refine pure_ (i := 8) (N := some 13) (v := ?_) (a' := ?_) (bm 22 511) rfl rfl (any_of HT_.out (by as_aux_lemma => kernel_rfl)) (fun _ _ _ h => h) (Or.inl ⟨by rfl, ?_⟩) ?_ ?_
  rotate_left
  · intro w'
    go_simp
    with_reducible rfl
  rotate_left
  · simp only [Act.put, List.setIfInBounds_toArray, List.set_cons_zero, List.set_cons_succ, i64_w, i32_w]
    rfl
  refine pure_ (i := 9) (N := some 14) (v := ?_) (a' := ?_) (bm 22 1023) rfl rfl (any_of HT_.out (by as_aux_lemma => kernel_rfl)) (fun _ _ _ h => h) (Or.inl ⟨by rfl, ?_⟩) ?_ ?_
  rotate_left
  · intro w'
    go_simp
    with_reducible rfl
  rotate_left
  · simp only [Act.put, List.setIfInBounds_toArray, List.set_cons_zero, List.set_cons_succ, i64_w, i32_w]
    rfl
  refine pure_ (i := 10) (N := some 15) (v := ?_) (a' := ?_) (bm 22 2047) rfl rfl (any_of HT_.out (by as_aux_lemma => kernel_rfl)) (fun _ _ _ h => h) (Or.inl ⟨by rfl, ?_⟩) ?_ ?_
  rotate_left
  · intro w'
    go_simp
    with_reducible rfl
  rotate_left
  · simp only [Act.put, List.setIfInBounds_toArray, List.set_cons_zero, List.set_cons_succ, i64_w, i32_w]
    rfl
  refine pure_ (i := 11) (N := some 16) (v := ?_) (a' := ?_) (bm 22 4095) rfl rfl (any_of HT_.out (by as_aux_lemma => kernel_rfl)) (fun _ _ _ h => h) (Or.inl ⟨by rfl, ?_⟩) ?_ ?_
  rotate_left
  · intro w'
    go_simp
    with_reducible rfl
  rotate_left
  · simp only [Act.put, List.setIfInBounds_toArray, List.set_cons_zero, List.set_cons_succ, i64_w, i32_w]
    rfl
  refine pure_ (i := 12) (N := some 17) (v := ?_) (a' := ?_) (bm 22 8191) rfl rfl (any_of HT_.out (by as_aux_lemma => kernel_rfl)) (fun _ _ _ h => h) (Or.inl ⟨by rfl, ?_⟩) ?_ ?_
  rotate_left
  · intro w'
    go_simp
    with_reducible rfl
  rotate_left
  · simp only [Act.put, List.setIfInBounds_toArray, List.set_cons_zero, List.set_cons_succ, i64_w, i32_w]
    rfl
  refine pure_ (i := 15) (N := some 20) (v := ?_) (a' := ?_) (bm 22 40959) rfl rfl (any_of HT_.out (by as_aux_lemma => kernel_rfl)) (fun _ _ _ h => h) (Or.inl ⟨by rfl, ?_⟩) ?_ ?_
  rotate_left
  · intro w'
    go_simp
    with_reducible rfl
  rotate_left
  · simp only [Act.put, List.setIfInBounds_toArray, List.set_cons_zero, List.set_cons_succ, i64_w, i32_w]
    rfl
  refine pure_ (i := 16) (N := some 21) (v := ?_) (a' := ?_) (bm 22 106495) rfl rfl (any_of HT_.out (by as_aux_lemma => kernel_rfl)) (fun _ _ _ h => h) (Or.inl ⟨by rfl, ?_⟩) ?_ ?_
  rotate_left
  · intro w'
    go_simp
    with_reducible rfl
  rotate_left
  · simp only [Act.put, List.setIfInBounds_toArray, List.set_cons_zero, List.set_cons_succ, i64_w, i32_w]
    rfl
  refine pure_ (i := 17) (N := some 22) (v := ?_) (a' := ?_) (bm 22 237567) rfl rfl (any_of HT_.out (by as_aux_lemma => kernel_rfl)) (fun _ _ _ h => h) (Or.inl ⟨by rfl, ?_⟩) ?_ ?_
  rotate_left
  · intro w'
    go_simp
    with_reducible rfl
  rotate_left
  · simp only [Act.put, List.setIfInBounds_toArray, List.set_cons_zero, List.set_cons_succ, i64_w, i32_w]
    rfl
  refine take_ (i := 13) (N := some 18) (v := ?_) (a' := ?_) (bm 22 245759) rfl rfl (take_ofW HT_.out HW_.out (by as_aux_lemma => kernel_rfl)) (fun _ _ _ h => h) (Or.inl ⟨by rfl, ?_⟩) hHeld ?_ ?_
  rotate_left
  · rintro w' ⟨s0, s1, s2, s3, s4⟩
    go_simp
    with_reducible rfl
  rotate_left
  · simp only [Act.put, List.setIfInBounds_toArray, List.set_cons_zero, List.set_cons_succ, i64_w, i32_w]
    rfl
  refine pure_ (i := 14) (N := some 19) (v := ?_) (a' := ?_) (bm 22 262143) rfl rfl (any_of HT_.out (by as_aux_lemma => kernel_rfl)) (fun _ _ _ h => h) (Or.inl ⟨by rfl, ?_⟩) ?_ ?_
  rotate_left
  · intro w'
    go_simp
    with_reducible rfl
  rotate_left
  · simp only [Act.put, List.setIfInBounds_toArray, List.set_cons_zero, List.set_cons_succ, i64_w, i32_w]
    rfl
  refine take_ (i := 18) (N := some 23) (v := ?_) (a' := ?_) (bm 22 524287) rfl rfl (take_ofW HT_.out HW_.out (by as_aux_lemma => kernel_rfl)) (fun _ _ _ h => h) (Or.inl ⟨by rfl, ?_⟩) hHeld ?_ ?_
  rotate_left
  · rintro w' ⟨s0, s1, s2, s3, s4⟩
    go_simp
    with_reducible rfl
  rotate_left
  · simp only [Act.put, List.setIfInBounds_toArray, List.set_cons_zero, List.set_cons_succ, i64_w, i32_w]
    rfl
  refine pure_ (i := 19) (N := some 24) (v := ?_) (a' := ?_) (bm 22 1048575) rfl rfl (any_of HT_.out (by as_aux_lemma => kernel_rfl)) (fun _ _ _ h => h) (Or.inl ⟨by rfl, ?_⟩) ?_ ?_
  rotate_left
  · intro w'
    go_simp
    with_reducible rfl
  rotate_left
  · simp only [Act.put, List.setIfInBounds_toArray, List.set_cons_zero, List.set_cons_succ, i64_w, i32_w]
    rfl
  refine pure_ (i := 20) (N := some 25) (v := ?_) (a' := ?_) (bm 22 2097151) rfl rfl (any_of HT_.out (by as_aux_lemma => kernel_rfl)) (fun _ _ _ h => h) (Or.inl ⟨by rfl, ?_⟩) ?_ ?_
  rotate_left
  · intro w'
    go_simp
    with_reducible rfl
  rotate_left
  · simp only [Act.put, List.setIfInBounds_toArray, List.set_cons_zero, List.set_cons_succ, i64_w, i32_w]
    rfl
  refine pure_ (i := 21) (N := some 26) (v := ?_) (a' := ?_) (bm 22 4194303) rfl rfl (any_of HT_.out (by as_aux_lemma => kernel_rfl)) (fun _ _ _ h => h) (Or.inl ⟨by rfl, ?_⟩) ?_ ?_
  rotate_left
  · intro w'
    go_simp
    with_reducible rfl
  rotate_left
  · simp only [Act.put, List.setIfInBounds_toArray, List.set_cons_zero, List.set_cons_succ, i64_w, i32_w]
    rfl
  refine done_ (done_of HT_.out (by as_aux_lemma => kernel_rfl)) ?_
  have hb := hHeld.2.2.2.1.out
  have hU := hHeld.2.2.2.2.out
  obtain ⟨⟨q0, q1, q2, q3⟩, p0, p1, p2, p3⟩ := cells4 hb
  clear hHeld
  clear hb hU
  go_wp2
  have hb2 : (w.setCell ⟨g, 1, none⟩ (.int .i64 ((n : Int) + (m : Int)))).heap[g]? = some (.cells #[.slice A xs.length c, .int .i64 ((n : Int) + (m : Int)), .bool false, .int .i64 e] 55 (0, 0)) := blk_put H2.out 1 _ rfl
  have hU2 := Upd.set w g 1 (.int .i64 ((n : Int) + (m : Int)))
  obtain ⟨⟨r0, r1, r2, r3⟩, _⟩ := cells4 hb2
  refine start_ (n := 16) (S := fun w' => w'.cell? ⟨g, 0, none⟩ = some (.slice A xs.length c) ∧ w'.cell? ⟨g, 1, none⟩ = some (.int .i64 ((n : Int) + (m : Int))) ∧ w'.cell? ⟨g, 2, none⟩ = some (.bool false) ∧ Aside0 (w'.heap[g]? = some (.cells #[.slice A xs.length c, .int .i64 ((n : Int) + (m : Int)), .bool false, .int .i64 e] 55 (0, 0))) ∧ Aside0 (Upd g w w')) (ds := []) (bm 16 0) (by as_aux_lemma => kernel_rfl) rfl (by as_aux_lemma => kernel_rfl) ⟨r0, r1, r2, (Aside0.mk hb2), (Aside0.mk ⟨hU2.os, hU2.tape, hU2.output, hU2.kept⟩)⟩ (fun hHeld => ?_)
  refine with_tabW rbytes.tab7 rbytes.bits7 (fun HT_ HW_ => ?_)
  refine pure_ (i := 0) (N := some 49) (v := ?_) (a' := ?_) (bm 16 1) rfl rfl (any_of HT_.out (by as_aux_lemma => kernel_rfl)) (fun _ _ _ h => h) (Or.inl ⟨by rfl, ?_⟩) ?_ ?_
  rotate_left
  · intro w'
    go_simp
    with_reducible rfl
  rotate_left
  · simp only [Act.put, List.setIfInBounds_toArray, List.set_cons_zero, List.set_cons_succ, i64_w, i32_w]
    rfl
  refine pure_ (i := 1) (N := some 50) (v := ?_) (a' := ?_) (bm 16 3) rfl rfl (any_of HT_.out (by as_aux_lemma => kernel_rfl)) (fun _ _ _ h => h) (Or.inl ⟨by rfl, ?_⟩) ?_ ?_
  rotate_left
  · intro w'
    go_simp
    with_reducible rfl
  rotate_left
  · simp only [Act.put, List.setIfInBounds_toArray, List.set_cons_zero, List.set_cons_succ, i64_w, i32_w]
    rfl
  refine pure_ (i := 2) (N := some 51) (v := ?_) (a' := ?_) (bm 16 7) rfl rfl (any_of HT_.out (by as_aux_lemma => kernel_rfl)) (fun _ _ _ h => h) (Or.inl ⟨by rfl, ?_⟩) ?_ ?_
  rotate_left
  · intro w'
    go_simp
    with_reducible rfl
  rotate_left
  · simp only [Act.put, List.setIfInBounds_toArray, List.set_cons_zero, List.set_cons_succ, i64_w, i32_w]
    rfl
  refine pure_ (i := 4) (N := some 53) (v := ?_) (a' := ?_) (bm 16 23) rfl rfl (any_of HT_.out (by as_aux_lemma => kernel_rfl)) (fun _ _ _ h => h) (Or.inl ⟨by rfl, ?_⟩) ?_ ?_
  rotate_left
  · intro w'
    go_simp
    with_reducible rfl
  rotate_left
  · simp only [Act.put, List.setIfInBounds_toArray, List.set_cons_zero, List.set_cons_succ, i64_w, i32_w]
    rfl
  refine pure_ (i := 5) (N := some 54) (v := ?_) (a' := ?_) (bm 16 55) rfl rfl (any_of HT_.out (by as_aux_lemma => kernel_rfl)) (fun _ _ _ h => h) (Or.inl ⟨by rfl, ?_⟩) ?_ ?_
  rotate_left
  · intro w'
    go_simp
    with_reducible rfl
  rotate_left
  · simp only [Act.put, List.setIfInBounds_toArray, List.set_cons_zero, List.set_cons_succ, i64_w, i32_w]
    rfl
  refine pure_ (i := 6) (N := some 55) (v := ?_) (a' := ?_) (bm 16 119) rfl rfl (any_of HT_.out (by as_aux_lemma => kernel_rfl)) (fun _ _ _ h => h) (Or.inl ⟨by rfl, ?_⟩) ?_ ?_
  rotate_left
  · intro w'
    go_simp
    with_reducible rfl
  rotate_left
  · simp only [Act.put, List.setIfInBounds_toArray, List.set_cons_zero, List.set_cons_succ, i64_w, i32_w]
    rfl
  refine pure_ (i := 8) (N := some 57) (v := ?_) (a' := ?_) (bm 16 375) rfl rfl (any_of HT_.out (by as_aux_lemma => kernel_rfl)) (fun _ _ _ h => h) (Or.inl ⟨by rfl, ?_⟩) ?_ ?_
  rotate_left
  · intro w'
    go_simp
    with_reducible rfl
  rotate_left
  · simp only [Act.put, List.setIfInBounds_toArray, List.set_cons_zero, List.set_cons_succ, i64_w, i32_w]
    rfl
  refine pure_ (i := 10) (N := some 59) (v := ?_) (a' := ?_) (bm 16 1399) rfl rfl (any_of HT_.out (by as_aux_lemma => kernel_rfl)) (fun _ _ _ h => h) (Or.inl ⟨by rfl, ?_⟩) ?_ ?_
  rotate_left
  · intro w'
    go_simp
    with_reducible rfl
  rotate_left
  · simp only [Act.put, List.setIfInBounds_toArray, List.set_cons_zero, List.set_cons_succ, i64_w, i32_w]
    rfl
  refine pure_ (i := 11) (N := some 60) (v := ?_) (a' := ?_) (bm 16 3447) rfl rfl (any_of HT_.out (by as_aux_lemma => kernel_rfl)) (fun _ _ _ h => h) (Or.inl ⟨by rfl, ?_⟩) ?_ ?_
  rotate_left
  · intro w'
    go_simp
    with_reducible rfl
  rotate_left
  · simp only [Act.put, List.setIfInBounds_toArray, List.set_cons_zero, List.set_cons_succ, i64_w, i32_w]
    rfl
  refine pure_ (i := 12) (N := some 61) (v := ?_) (a' := ?_) (bm 16 7543) rfl rfl (any_of HT_.out (by as_aux_lemma => kernel_rfl)) (fun _ _ _ h => h) (Or.inl ⟨by rfl, ?_⟩) ?_ ?_
  rotate_left
  · intro w'
    go_simp
    with_reducible rfl
  rotate_left
  · simp only [Act.put, List.setIfInBounds_toArray, List.set_cons_zero, List.set_cons_succ, i64_w, i32_w]
    rfl
  refine take_ (i := 3) (N := some 52) (v := ?_) (a' := ?_) (bm 16 7551) rfl rfl (take_ofW HT_.out HW_.out (by as_aux_lemma => kernel_rfl)) (fun _ _ _ h => h) (Or.inl ⟨by rfl, ?_⟩) hHeld ?_ ?_
  rotate_left
  · rintro w' ⟨s0, s1, s2, s3, s4⟩
    go_simp
    with_reducible rfl
  rotate_left
  · simp only [Act.put, List.setIfInBounds_toArray, List.set_cons_zero, List.set_cons_succ, i64_w, i32_w]
    rfl
  refine take_ (i := 7) (N := some 56) (v := ?_) (a' := ?_) (bm 16 7679) rfl rfl (take_ofW HT_.out HW_.out (by as_aux_lemma => kernel_rfl)) (fun _ _ _ h => h) (Or.inl ⟨by rfl, ?_⟩) hHeld ?_ ?_
  rotate_left
  · rintro w' ⟨s0, s1, s2, s3, s4⟩
    go_simp
    with_reducible rfl
  rotate_left
  · simp only [Act.put, List.setIfInBounds_toArray, List.set_cons_zero, List.set_cons_succ, i64_w, i32_w]
    rfl
  refine pure_ (i := 9) (N := some 58) (v := ?_) (a' := ?_) (bm 16 8191) rfl rfl (any_of HT_.out (by as_aux_lemma => kernel_rfl)) (fun _ _ _ h => h) (Or.inl ⟨by rfl, ?_⟩) ?_ ?_
  rotate_left
  · intro w'
    go_simp
    with_reducible rfl
  rotate_left
  · simp only [Act.put, List.setIfInBounds_toArray, List.set_cons_zero, List.set_cons_succ, i64_w, i32_w]
    rfl
  refine take_ (i := 13) (N := some 62) (v := ?_) (a' := ?_) (bm 16 16383) rfl rfl (take_ofW HT_.out HW_.out (by as_aux_lemma => kernel_rfl)) (fun _ _ _ h => h) (Or.inl ⟨by rfl, ?_⟩) hHeld ?_ ?_
  rotate_left
  · rintro w' ⟨s0, s1, s2, s3, s4⟩
    go_simp
    with_reducible rfl
  rotate_left
  · simp only [Act.put, List.setIfInBounds_toArray, List.set_cons_zero, List.set_cons_succ, i64_w, i32_w]
    rfl
  refine pure_ (i := 14) (N := some 63) (v := ?_) (a' := ?_) (bm 16 32767) rfl rfl (any_of HT_.out (by as_aux_lemma => kernel_rfl)) (fun _ _ _ h => h) (Or.inl ⟨by rfl, ?_⟩) ?_ ?_
  rotate_left
  · intro w'
    go_simp
    with_reducible rfl
  rotate_left
  · simp only [Act.put, List.setIfInBounds_toArray, List.set_cons_zero, List.set_cons_succ, i64_w, i32_w]
    rfl
  refine pure_ (i := 15) (N := some 4) (v := ?_) (a' := ?_) (bm 16 65535) rfl rfl (any_of HT_.out (by as_aux_lemma => kernel_rfl)) (fun _ _ _ h => h) (Or.inl ⟨by rfl, ?_⟩) ?_ ?_
  rotate_left
  · intro w'
    go_simp
    with_reducible rfl
  rotate_left
  · simp only [Act.put, List.setIfInBounds_toArray, List.set_cons_zero, List.set_cons_succ, i64_w, i32_w]
    rfl
  refine done_ (done_of HT_.out (by as_aux_lemma => kernel_rfl)) ?_
  go_wp2
  go_ret
  have hK := hHeld.2.2.2.2.out
  refine ⟨A2, c - n, rfl, hcn, fun W' hk => HRR.out W' ((hK.kept.mono (fun k hk => .inr (by omega))).then_ hk (fun _ h2 => .inl h2)), ⟨h1, by omega, hx, A, c, ?_, h3, H4.out.on (hK.kept.mono (fun k hk => .inr (by omega)))⟩, hK⟩
  rw [Int.natCast_add]
  exact hHeld.2.2.2.1.out
end Go.Proofs.Ytmglilncdffbkaa.RCur
end
section
namespace Go.Proofs.Ytmglilncdffbkaa.RCur
open Go.RowKit Go.Proofs.Ytmglilncdffbkaa.P Go.Proofs.Ytmglilncdffbkaa.E Go.Proofs.Ytmglilncdffbkaa.Cur Go.Proofs.YtmglilncdffbkaaW.PrintWords Go.Proofs.YtmglilncdffbkaaW.PrintLast Go.Proofs.YtmglilncdffbkaaW.PrintMore
theorem reftake_any (A : Option Addr) (c : Nat) (l : List Int) (w : World) (hr : Kd.C (Kd.int .u8) w A l.length l) (hc : l.length ≤ c) (hb : isBytes l) (hl : l.length ≤ 1000000) :
    Calls Try.prog 52 #[.slice A l.length c] w fun e w' => ∃ A' c', e = .returned (.slice A' (Take.words l).length c') ∧ (Take.words l).length ≤ c' ∧ Row16 w.heap.size w'.heap.size w' A' (Take.words l) ∧ Below w.heap.size w w' := by
  obtain ⟨k, hk⟩ := (Take.reftake_ev l hb hl).rounds
  refine (busbarref04_Take.calls k A c l _ w hr hc hk).mono ?_
  rintro e w' ⟨v, rfl, R, B⟩
  obtain ⟨A2, c2, rfl, h2, h3⟩ := Kd.R_reads R
  obtain ⟨_, h5, h6⟩ := row16_of_R R
  exact ⟨A2, c2, rfl, h5, h6, B⟩
theorem reftake_nil (w : World) : Calls Try.prog 52 #[.slice none 0 0] w fun e w' => ∃ A' c', e = .returned (.slice A' 0 c') ∧ Below w.heap.size w w' := by
  refine (reftake_any none 0 [] w (Kd.C_nil _ w) (Nat.le_refl _) (fun x hx => by cases hx) (by simp)).mono ?_
  rintro e w' ⟨A', c', rfl, _, _, h⟩
  exact ⟨A', c', rfl, h⟩
theorem bytes_short (hi g : Nat) (xs : List Int) (n : Nat) (s : Bool) (e m : Int) (w : World) (h : RAt hi w g xs n s e) (hm : s = true ∨ m < 0 ∨ (xs.length : Int) - n < m) :
    Calls Try.prog 51 #[.pointer (some ⟨g, 0, none⟩), .int .i64 m] w fun en w' => en = .returned (.slice none 0 0) ∧ RAt hi w' g xs xs.length true (fstE e 2) ∧ Upd g w w' := by
  cases s with
  | true => exact bytes_s hi g xs n e m w h
  | false =>
    by_cases c1 : m < 0
    · exact bytes_neg hi g xs n e m w h c1
    · exact bytes_over hi g xs n e m w h c1 (by rcases hm with h | h | h; cases h; exact absurd h c1; exact h)
theorem byte_ok (hi g : Nat) (xs : List Int) (n : Nat) (e : Int) (w : World) (h : RAt hi w g xs n false e) (hn : n < xs.length) :
    Calls Try.prog 24 #[.pointer (some ⟨g, 0, none⟩)] w fun en w' => en = .returned (.int .u8 (xs.getD n 0)) ∧ RAt hi w' g xs (n + 1) false e ∧ Upd g w w' := by
  have hL : (xs.drop n).take 1 = [xs.getD n 0] := by rw [drop_cons hn 0]; rfl
  have hB := bytes_ok hi g xs n e 1 w h (by omega)
  rw [hL] at hB
  have HB := Aside0.mk hB
  clear h hB hL
  generalize xs.getD n 0 = x at HB ⊢
  go_enter Try.func24, Try.ntmps24
  go_wp2_with (go_at_call 51; refine HB.out.mono ?_; rintro en w1 ⟨A', c', rfl, b1, b2, b3, b4⟩; obtain ⟨ad, rfl, q0⟩ := at_row b2 0 (by simp); rw [Addr.add_zero'] at q0; have q1 : w1.cell? ad = some (.int .u8 x) := q0; have N3 := Aside0.mk b3; have N4 := Aside0.mk b4; clear b1 b2 b3 b4 HB q0)
  go_ret
  exact ⟨rfl, N3.out, N4.out⟩
theorem byte_short (hi g : Nat) (xs : List Int) (n : Nat) (s : Bool) (e : Int) (w : World) (h : RAt hi w g xs n s e) (hs : s = true ∨ xs.length ≤ n) :
    Calls Try.prog 24 #[.pointer (some ⟨g, 0, none⟩)] w fun en w' => en = .returned (.int .u8 0) ∧ RAt hi w' g xs xs.length true (fstE e 2) ∧ Upd g w w' := by
  have HB := Aside0.mk (bytes_short hi g xs n s e 1 w h (by rcases hs with h | h; exact .inl h; exact .inr (.inr (by omega))))
  clear h
  go_enter Try.func24, Try.ntmps24
  go_wp2_with (go_at_call 51; refine HB.out.mono ?_; rintro en w1 ⟨rfl, b3, b4⟩; have N3 := Aside0.mk b3; have N4 := Aside0.mk b4; clear b3 b4 HB)
  go_ret
  exact ⟨rfl, N3.out, N4.out⟩
theorem words_neg (hi g : Nat) (xs : List Int) (n : Nat) (s : Bool) (e m : Int) (w : World) (h : RAt hi w g xs n s e) (hm : m < 0) :
    Calls Try.prog 26 #[.pointer (some ⟨g, 0, none⟩), .int .i64 m] w fun en w' => ∃ A' c', en = .returned (.slice A' 0 c') ∧ RAt hi w' g xs xs.length true (fstE e 2) ∧ Upd g w w' := by
  have HA := Aside0.mk h
  obtain ⟨h1, hn, hx, A, c, h2, h3, h4⟩ := h
  obtain ⟨⟨k0, k1, k2, k3⟩, f0, f1, f2, f3⟩ := cells4 h2
  clear h2 h4
  have hu1 := Try.underlying55
  have d1 : decide (m < 0) = true := decide_eq_true hm
  go_enter Try.func26, Try.ntmps26
  go_wp2_with (first | (go_at_call 51; refine (bytes_short hi g xs n s e _ _ HA.out (.inr (.inl (by decide)))).mono ?_; rintro en w1 ⟨rfl, b3, b4⟩; have N3 := Aside0.mk b3; have N4 := Aside0.mk b4; clear b3 b4) | (go_at_call 52; refine (reftake_nil _).mono ?_; rintro en w2 ⟨A2, c2_, rfl, d3⟩; have D3 := Aside0.mk d3; clear d3))
  go_ret
  have hN : RAt hi w2 g xs xs.length true (fstE e 2) := N3.out.below D3.out
  exact ⟨A2, c2_, rfl, hN, N4.out.trans (Upd.of_below D3.out)⟩
theorem words_over (hi g : Nat) (xs : List Int) (n : Nat) (s : Bool) (e m : Int) (w : World) (h : RAt hi w g xs n s e) (hm : ¬ m < 0) (ho : (xs.length : Int) < m) :
    Calls Try.prog 26 #[.pointer (some ⟨g, 0, none⟩), .int .i64 m] w fun en w' => ∃ A' c', en = .returned (.slice A' 0 c') ∧ RAt hi w' g xs xs.length true (fstE e 2) ∧ Upd g w w' := by
  have HA := Aside0.mk h
  obtain ⟨h1, hn, hx, A, c, h2, h3, h4⟩ := h
  obtain ⟨⟨k0, k1, k2, k3⟩, f0, f1, f2, f3⟩ := cells4 h2
  clear h2 h4
  have hu1 := Try.underlying55
  have d1 : decide (m < 0) = false := decide_eq_false hm
  have d2 : decide (m > (xs.length : Int)) = true := decide_eq_true ho
  have d3 : decide ((xs.length : Int) < m) = true := decide_eq_true ho
  go_enter Try.func26, Try.ntmps26
  go_wp2_with (first | (go_at_call 51; refine (bytes_short hi g xs n s e _ _ HA.out (.inr (.inl (by decide)))).mono ?_; rintro en w1 ⟨rfl, b3, b4⟩; have N3 := Aside0.mk b3; have N4 := Aside0.mk b4; clear b3 b4) | (go_at_call 52; refine (reftake_nil _).mono ?_; rintro en w2 ⟨A2, c2_, rfl, d3⟩; have D3 := Aside0.mk d3; clear d3))
  go_ret
  have hN : RAt hi w2 g xs xs.length true (fstE e 2) := N3.out.below D3.out
  exact ⟨A2, c2_, rfl, hN, N4.out.trans (Upd.of_below D3.out)⟩
theorem words_few (hi g : Nat) (xs : List Int) (n : Nat) (s : Bool) (e m : Int) (w : World) (h : RAt hi w g xs n s e) (hm : ¬ m < 0) (ho : ¬ (xs.length : Int) < m) (hs : s = true ∨ (xs.length : Int) - n < m + m) :
    Calls Try.prog 26 #[.pointer (some ⟨g, 0, none⟩), .int .i64 m] w fun en w' => ∃ A' c', en = .returned (.slice A' 0 c') ∧ RAt hi w' g xs xs.length true (fstE e 2) ∧ Upd g w w' := by
  have HA := Aside0.mk h
  obtain ⟨h1, hn, hx, A, c, h2, h3, h4⟩ := h
  obtain ⟨⟨k0, k1, k2, k3⟩, f0, f1, f2, f3⟩ := cells4 h2
  clear h2 h4
  have hu1 := Try.underlying55
  have d1 : decide (m < 0) = false := decide_eq_false hm
  have d2 : decide (m > (xs.length : Int)) = false := decide_eq_false ho
  have d3 : decide ((xs.length : Int) < m) = false := decide_eq_false ho
  have d4 : wrap64 (m + m) = m + m := wrap64_id (by omega) (by omega)
  have HS := Aside0.mk hs
  clear hs
  go_enter Try.func26, Try.ntmps26
  go_wp2_with (first | (go_at_call 51; refine (bytes_short hi g xs n s e _ _ HA.out (HS.out.elim .inl (fun h => .inr (.inr h)))).mono ?_; rintro en w1 ⟨rfl, b3, b4⟩; have N3 := Aside0.mk b3; have N4 := Aside0.mk b4; clear b3 b4) | (go_at_call 52; refine (reftake_nil _).mono ?_; rintro en w2 ⟨A2, c2_, rfl, d3⟩; have D3 := Aside0.mk d3; clear d3))
  go_ret
  have hN : RAt hi w2 g xs xs.length true (fstE e 2) := N3.out.below D3.out
  exact ⟨A2, c2_, rfl, hN, N4.out.trans (Upd.of_below D3.out)⟩
theorem words_short (hi g : Nat) (xs : List Int) (n : Nat) (s : Bool) (e m : Int) (w : World) (h : RAt hi w g xs n s e) (hm : s = true ∨ m < 0 ∨ (xs.length : Int) - n < 2 * m) :
    Calls Try.prog 26 #[.pointer (some ⟨g, 0, none⟩), .int .i64 m] w fun en w' => ∃ A' c', en = .returned (.slice A' 0 c') ∧ RAt hi w' g xs xs.length true (fstE e 2) ∧ Upd g w w' := by
  by_cases c1 : m < 0
  · exact words_neg hi g xs n s e m w h c1
  by_cases c2 : (xs.length : Int) < m
  · exact words_over hi g xs n s e m w h c1 c2
  · exact words_few hi g xs n s e m w h c1 c2 (by rcases hm with h | h | h; exact .inl h; exact absurd h c1; exact .inr (by omega))
theorem words_ok (hi g : Nat) (xs : List Int) (n : Nat) (e : Int) (m : Nat) (w : World) (h : RAt hi w g xs n false e) (hm : 2 * m ≤ xs.length - n) (hb : isBytes xs) :
    Calls Try.prog 26 #[.pointer (some ⟨g, 0, none⟩), .int .i64 m] w fun en w' => ∃ A' c', en = .returned (.slice A' (Take.words ((xs.drop n).take (2 * m))).length c') ∧ (Take.words ((xs.drop n).take (2 * m))).length ≤ c' ∧ Row16 w.heap.size w'.heap.size w' A' (Take.words ((xs.drop n).take (2 * m))) ∧ RAt hi w' g xs (n + 2 * m) false e ∧ Upd g w w' := by
  have hlen : ((xs.drop n).take (2 * m)).length ≤ 1000000 := by have := h.2.2.1; rw [List.length_take, List.length_drop]; omega
  have hbb : isBytes ((xs.drop n).take (2 * m)) := isBytes_take (isBytes_drop hb n) _
  have hB := bytes_ok hi g xs n e (2 * m) w h hm
  rw [show ((2 * m : Nat) : Int) = (m : Int) + (m : Int) by omega] at hB
  have HB := Aside0.mk hB
  have hT := fun (W : World) (A : Option Addr) (c : Nat) (hr : Kd.C (Kd.int .u8) W A ((xs.drop n).take (2 * m)).length ((xs.drop n).take (2 * m))) (hc : ((xs.drop n).take (2 * m)).length ≤ c) => reftake_any A c ((xs.drop n).take (2 * m)) W hr hc hbb hlen
  have HT := Aside0.mk hT
  clear hB hT hlen hbb
  have HA := Aside0.mk h
  obtain ⟨h1, hn, hx, A, c, h2, h3, h4⟩ := h
  obtain ⟨⟨k0, k1, k2, k3⟩, f0, f1, f2, f3⟩ := cells4 h2
  clear h2 h4
  have hu1 := Try.underlying55
  have d1 : decide ((m : Int) < 0) = false := decide_eq_false (by omega)
  have d2 : decide ((m : Int) > (xs.length : Int)) = false := decide_eq_false (by omega)
  have d3 : decide ((xs.length : Int) < (m : Int)) = false := decide_eq_false (by omega)
  have d4 : wrap64 ((m : Int) + (m : Int)) = (m : Int) + (m : Int) := wrap64_id (by omega) (by omega)
  have d5 : ¬ xs.length < m := by omega
  have d6 : decide (xs.length < m) = false := decide_eq_false d5
  clear hm
  generalize hws : Take.words ((xs.drop n).take (2 * m)) = ws at HT ⊢
  clear hws
  generalize (xs.drop n).take (2 * m) = bs at HT HB
  go_enter Try.func26, Try.ntmps26
  go_wp2_with (first | (go_at_call 51; refine HB.out.mono ?_; rintro en w1 ⟨A1, c1_, rfl, b1, b2, b3, b4⟩; have N1 := Aside0.mk b1; have N2 := Aside0.mk b2; have N3 := Aside0.mk b3; have N4 := Aside0.mk b4; clear b1 b2 b3 b4 HB) | (go_at_call 52; refine (HT.out w1 A1 c1_ N2.out.now N1.out).mono ?_; rintro en w2 ⟨A2, c2_, rfl, g1, g2, g3⟩; have D1 := Aside0.mk g1; have D2 := Aside0.mk g2; have D3 := Aside0.mk g3; clear g1 g2 g3))
  go_ret
  exact ⟨A2, c2_, rfl, D1.out, D2.out.wide N4.out.kept.1 (Nat.le_refl _), N3.out.below D3.out, N4.out.trans (Upd.of_below D3.out)⟩
theorem word_ok (hi g : Nat) (xs : List Int) (n : Nat) (e : Int) (w : World) (h : RAt hi w g xs n false e) (hn : n + 2 ≤ xs.length) (hb : isBytes xs) :
    Calls Try.prog 27 #[.pointer (some ⟨g, 0, none⟩)] w fun en w' => en = .returned (.int .u16 (xs.getD n 0 * 256 + xs.getD (n + 1) 0)) ∧ RAt hi w' g xs (n + 2) false e ∧ Upd g w w' := by
  have hL : Take.words ((xs.drop n).take (2 * 1)) = [xs.getD n 0 * 256 + xs.getD (n + 1) 0] := by rw [drop_cons (show n < xs.length by omega) 0, drop_cons (show n + 1 < xs.length by omega) 0]; exact words_two _ _ _
  have hB := words_ok hi g xs n e 1 w h (by omega) hb
  rw [hL] at hB
  have HB := Aside0.mk hB
  clear h hB hL
  generalize xs.getD n 0 * 256 + xs.getD (n + 1) 0 = x at HB ⊢
  go_enter Try.func27, Try.ntmps27
  go_wp2_with (go_at_call 26; refine HB.out.mono ?_; rintro en w1 ⟨A', c', rfl, b1, b2, b3, b4⟩; obtain ⟨ad, rfl, q0⟩ := at_row16 b2 0 (by simp); rw [Addr.add_zero'] at q0; have q1 : w1.cell? ad = some (.int .u16 x) := q0; have N3 := Aside0.mk b3; have N4 := Aside0.mk b4; clear b1 b2 b3 b4 HB q0)
  go_ret
  exact ⟨rfl, N3.out, N4.out⟩
theorem word_short (hi g : Nat) (xs : List Int) (n : Nat) (s : Bool) (e : Int) (w : World) (h : RAt hi w g xs n s e) (hs : s = true ∨ xs.length < n + 2) :
    Calls Try.prog 27 #[.pointer (some ⟨g, 0, none⟩)] w fun en w' => en = .returned (.int .u16 0) ∧ RAt hi w' g xs xs.length true (fstE e 2) ∧ Upd g w w' := by
  have HB := Aside0.mk (words_short hi g xs n s e 1 w h (by rcases hs with h | h; exact .inl h; exact .inr (.inr (by omega))))
  clear h
  go_enter Try.func27, Try.ntmps27
  go_wp2_with (go_at_call 26; refine HB.out.mono ?_; rintro en w1 ⟨A1, c1, rfl, b3, b4⟩; have N3 := Aside0.mk b3; have N4 := Aside0.mk b4; clear b3 b4 HB)
  go_ret
  exact ⟨rfl, N3.out, N4.out⟩
theorem end_any (hi g : Nat) (xs : List Int) (n : Nat) (s : Bool) (e : Int) (w : World) (h : RAt hi w g xs n s e) :
    Calls Try.prog 29 #[.pointer (some ⟨g, 0, none⟩)] w fun en w' => en = .returned (.tuple #[]) ∧ RAt hi w' g xs n s (if n = xs.length then e else fstE e 3) ∧ Upd g w w' := by
  have hn := h.2.1
  have HL := Aside0.mk (left_any hi g xs n s e w h)
  have HN : ∀ W, RAt hi W g xs n s e → Calls Try.prog 25 #[.pointer (some ⟨g, 0, none⟩), .bool (((xs.length : Int) - n) == 0), .int .i64 3] W fun en w' => en = .returned (.tuple #[]) ∧ RAt hi w' g xs n s (if n = xs.length then e else fstE e 3) ∧ Upd g W w' := by
    intro W hW
    by_cases hc : n = xs.length
    · rw [if_pos hc, show (((xs.length : Int) - n) == 0) = true from beq_iff_eq.2 (by omega)]
      exact need_met hi g xs n s e W hW 3
    · rw [if_neg hc, show (((xs.length : Int) - n) == 0) = false from beq_eq_false_iff_ne.2 (by omega)]
      exact need_any hi g xs n s e W hW 3
  generalize (if n = xs.length then e else fstE e 3) = E at HN ⊢
  have HNN := Aside0.mk HN
  clear HN h
  go_enter Try.func29, Try.ntmps29
  go_wp2_with (first | (go_at_call 54; refine HL.out.mono ?_; rintro en w1 ⟨rfl, b1, b2⟩; have N1 := Aside0.mk b1; have N2 := Aside0.mk b2; clear b1 b2 HL) | (go_at_call 25; refine (HNN.out _ N1.out).mono ?_; rintro en w2 ⟨rfl, b1, b2⟩; have N3 := Aside0.mk b1; have N4 := Aside0.mk b2; clear b1 b2 HNN))
  first
  | exact bodyPost_end (results_none rfl _ _ _) rfl ⟨rfl, N3.out, N2.out.trans N4.out⟩
  | exact bodyPost_ret (results_none rfl _ _ _) rfl ⟨rfl, N3.out, N2.out.trans N4.out⟩
end Go.Proofs.Ytmglilncdffbkaa.RCur
end
section
namespace Go.Proofs.Ytmglilncdffbkaa.Cu
open Go.RowKit Go.Proofs.Ytmglilncdffbkaa.E Go.Proofs.Ytmglilncdffbkaa.Cur Go.Proofs.Ytmglilncdffbkaa.RCur Go.Proofs.YtmglilncdffbkaaW.PrintWords Go.Proofs.YtmglilncdffbkaaW.PrintLast Go.Proofs.YtmglilncdffbkaaW.PrintMore
structure Cu where
  xs : List Int
  s : Bool
  e : Int
def Cu.good (c : Cu) : Prop := isBytes c.xs ∧ c.xs.length ≤ 1000000 ∧ (c.s = true → c.xs = [])
def Cu.fail (c : Cu) : Cu := ⟨[], true, fstE c.e 2⟩
def Cu.okB (c : Cu) (n : Int) : Bool := !c.s && decide (0 ≤ n) && decide (n ≤ (c.xs.length : Int))
def Cu.bytesV (c : Cu) (n : Int) : List Int := if c.okB n = true then c.xs.take n.toNat else []
def Cu.bytesS (c : Cu) (n : Int) : Cu := if c.okB n = true then ⟨c.xs.drop n.toNat, c.s, c.e⟩ else c.fail
def Cu.byteV (c : Cu) : Int := (c.bytesV 1).headD 0
def Cu.byteS (c : Cu) : Cu := c.bytesS 1
def Cu.need (c : Cu) (ok : Bool) (f : Int) : Cu := ⟨c.xs, c.s, if c.e = 0 ∧ ok = false then f else c.e⟩
def Cu.fin (c : Cu) : Cu := c.need (decide (c.xs = [])) 3
theorem Cu.good_fail (c : Cu) : c.fail.good := by
  refine ⟨?_, ?_, ?_⟩
  · intro x h; cases h
  · simp [Cu.fail]
  · intro _; rfl
theorem Cu.good_need {c : Cu} (h : c.good) (ok : Bool) (f : Int) : (c.need ok f).good := h
theorem Cu.okB_iff (c : Cu) (n : Int) : c.okB n = true ↔ c.s = false ∧ 0 ≤ n ∧ n ≤ (c.xs.length : Int) := by
  simp [Cu.okB, and_assoc]
theorem Cu.good_bytesS {c : Cu} (h : c.good) (n : Int) : (c.bytesS n).good := by
  unfold Cu.bytesS
  split
  · rename_i hk
    refine ⟨isBytes_drop h.1 _, by have := h.2.1; simp only [List.length_drop]; omega, fun hs => ?_⟩
    rw [((Cu.okB_iff c n).1 hk).1] at hs
    cases hs
  · exact Cu.good_fail c
theorem Cu.good_byteS {c : Cu} (h : c.good) : c.byteS.good := Cu.good_bytesS h 1
theorem Cu.bytes_bytesV {c : Cu} (h : c.good) (n : Int) : isBytes (c.bytesV n) := by
  unfold Cu.bytesV
  split
  · exact isBytes_take h.1 _
  · exact fun x h => by cases h
theorem Cu.byteV_bd {c : Cu} (h : c.good) : 0 ≤ c.byteV ∧ c.byteV < 256 := by
  have := Cu.bytes_bytesV h 1
  unfold Cu.byteV
  cases hv : c.bytesV 1 with
  | nil => simp
  | cons x l => rw [hv] at this; exact this x List.mem_cons_self
theorem Cu.not_okB {c : Cu} {n : Int} (h : ¬ c.okB n = true) : c.s = true ∨ n < 0 ∨ (c.xs.length : Int) < n := by
  rw [Cu.okB_iff] at h
  cases hs : c.s with
  | true => exact .inl rfl
  | false => exact .inr (by have : ¬ (0 ≤ n ∧ n ≤ (c.xs.length : Int)) := fun hh => h ⟨hs, hh.1, hh.2⟩; omega)
def PAt (lo hi : Nat) (w : World) (g : Nat) (c : Cu) : Prop := At lo hi w g c.xs c.s c.e ∧ c.good
theorem PAt.on {lo hi : Nat} {w w' : World} {g : Nat} {c : Cu} {S : Nat → Prop} (h : PAt lo hi w g c) (hk : Kept w w' S) (h1 : ∀ k, S k → k < lo ∨ hi ≤ k) (h2 : ¬ S g) : PAt lo hi w' g c := ⟨h.1.on hk h1 h2, h.2⟩
theorem PAt.below {lo hi : Nat} {w w' : World} {g : Nat} {c : Cu} (h : PAt lo hi w g c) (hb : Below w.heap.size w w') : PAt lo hi w' g c := ⟨h.1.below hb, h.2⟩
theorem p_new (A : Option Addr) (c : Nat) (l : List Int) (w : World) (hr : Kd.C (Kd.int .u8) w A l.length l) (hc : l.length ≤ c) (hs : l.length ≤ 1000000) (hb : isBytes l) :
    Calls Try.prog 20 #[.slice A l.length c] w fun e w' => ∃ g, e = .returned (.pointer (some ⟨g, 0, none⟩)) ∧ w.heap.size ≤ g ∧ PAt w.heap.size g w' g ⟨l, false, 0⟩ ∧ Below w.heap.size w w' ∧ w'.heap.size = g + 1 :=
  (new_any A c l w hr hc hs).mono fun e w' ⟨g, h1, h2, h3, h4, h5⟩ => ⟨g, h1, h2, ⟨h3, hb, hs, fun h => by cases h⟩, h4, h5⟩
theorem one_of {c : Cu} (h : c.okB 1 = true) : ∃ x l, c.xs = x :: l := by
  obtain ⟨_, _, h3⟩ := (Cu.okB_iff c 1).1 h
  cases hx : c.xs with
  | nil => rw [hx] at h3; simp at h3
  | cons x l => exact ⟨x, l, rfl⟩
theorem p_byte {lo hi g : Nat} {c : Cu} {w : World} (h : PAt lo hi w g c) :
    Calls Try.prog 41 #[.pointer (some ⟨g, 0, none⟩)] w fun en w' => en = .returned (.int .u8 c.byteV) ∧ PAt lo hi w' g c.byteS ∧ Upd g w w' := by
  have hg := Cu.good_byteS h.2
  unfold Cu.byteV Cu.bytesV PAt
  unfold Cu.byteS Cu.bytesS at hg ⊢
  by_cases hk : c.okB 1 = true
  · rw [if_pos hk] at hg ⊢
    rw [if_pos hk]
    obtain ⟨x, l, hx⟩ := one_of hk
    have h1 := ((Cu.okB_iff c 1).1 hk).1
    have ha := h.1
    have hl := h.2.2.1
    rw [h1, hx] at ha
    rw [hx] at hl
    refine (byte_ok lo hi g x l c.e w ha hl).mono ?_
    rintro en w' ⟨rfl, b3, b4⟩
    refine ⟨by rw [hx]; rfl, ⟨?_, hg⟩, b4⟩
    show At lo hi w' g (c.xs.drop 1) c.s c.e
    rw [h1, hx]
    exact b3
  · rw [if_neg hk] at hg ⊢
    rw [if_neg hk]
    refine (byte_short lo hi g c.xs c.s c.e w h.1 ?_).mono ?_
    · rcases Cu.not_okB hk with h | h | h
      · exact .inl h
      · omega
      · exact .inr (List.eq_nil_of_length_eq_zero (by omega))
    rintro en w' ⟨rfl, b3, b4⟩
    exact ⟨rfl, ⟨b3, hg⟩, b4⟩
theorem p_need {lo hi g : Nat} {c : Cu} {w : World} (h : PAt lo hi w g c) (ok : Bool) (f : Int) :
    Calls Try.prog 42 #[.pointer (some ⟨g, 0, none⟩), .bool ok, .int .i64 f] w fun en w' => en = .returned (.tuple #[]) ∧ PAt lo hi w' g (c.need ok f) ∧ Upd g w w' :=
  (Cur.need_any lo hi g c.xs c.s c.e ok f w h.1).mono fun en w' ⟨h1, h2, h3⟩ => ⟨h1, ⟨h2, h.2⟩, h3⟩
theorem p_err {lo hi g : Nat} {c : Cu} {w : World} (h : PAt lo hi w g c) :
    Calls Try.prog 23 #[.pointer (some ⟨g, 0, none⟩)] w fun en w' => en = .returned (.int .i64 c.e) ∧ w' = w := Cur.err_any lo hi g c.xs c.s c.e w h.1
theorem fin_eq (c : Cu) : c.fin = ⟨c.xs, c.s, if c.xs = [] then c.e else fstE c.e 3⟩ := by
  unfold Cu.fin Cu.need fstE
  by_cases hx : c.xs = [] <;> simp [hx]
theorem p_end {lo hi g : Nat} {c : Cu} {w : World} (h : PAt lo hi w g c) :
    Calls Try.prog 22 #[.pointer (some ⟨g, 0, none⟩)] w fun en w' => en = .returned (.tuple #[]) ∧ PAt lo hi w' g c.fin ∧ Upd g w w' := by
  have hg : c.fin.good := Cu.good_need h.2 _ _
  rw [fin_eq] at hg ⊢
  exact (Cur.end_any lo hi g c.xs c.s c.e w h.1).mono fun en w' ⟨h1, h2, h3⟩ => ⟨h1, ⟨h2, hg⟩, h3⟩
def QAt (hi : Nat) (w : World) (g : Nat) (c : Cu) : Prop := ∃ all n, RAt hi w g all n c.s c.e ∧ c.xs = all.drop n ∧ isBytes all ∧ (c.s = true → n = all.length)
theorem QAt.on {hi : Nat} {w w' : World} {g : Nat} {c : Cu} {S : Nat → Prop} (h : QAt hi w g c) (hk : Kept w w' S) (h1 : ∀ k, S k → hi ≤ k) (h2 : ¬ S g) : QAt hi w' g c := by
  obtain ⟨all, n, a1, a2, a3, a4⟩ := h
  exact ⟨all, n, a1.on hk h1 h2, a2, a3, a4⟩
theorem QAt.good {hi : Nat} {w : World} {g : Nat} {c : Cu} (h : QAt hi w g c) : c.good := by
  obtain ⟨all, n, a1, a2, a3, a4⟩ := h
  have := a1.2.2.1
  refine ⟨by rw [a2]; exact isBytes_drop a3 _, by rw [a2, List.length_drop]; omega, fun hs => ?_⟩
  rw [a2, a4 hs, List.drop_length]
theorem QAt.lt {hi : Nat} {w : World} {g : Nat} {c : Cu} (h : QAt hi w g c) : g < w.heap.size := by
  obtain ⟨all, n, a1, _⟩ := h
  exact a1.lt
theorem q_new {w : World} {A : Option Addr} {c : Nat} {l : List Int} (hr : Row 0 w.heap.size w A l) (hc : l.length ≤ c) (hs : l.length ≤ 1000000) (hb : isBytes l) {W : World} (hk : Kept w W (fun _ => False)) :
    QAt w.heap.size (W.alloc (.cells #[.slice A l.length c, .int .i64 0, .bool false, .int .i64 0] 55)) W.heap.size ⟨l, false, 0⟩ :=
  ⟨l, 0, ⟨hk.1, Nat.zero_le _, hs, A, c, blk_new _ _, hc, hr.on ((hk.alloc _).mono fun _ h => h.elim)⟩, rfl, hb, fun h => by cases h⟩
theorem q_need {hi g : Nat} {c : Cu} {w : World} (h : QAt hi w g c) (ok : Bool) (f : Int) :
    Calls Try.prog 25 #[.pointer (some ⟨g, 0, none⟩), .bool ok, .int .i64 f] w fun en w' => en = .returned (.tuple #[]) ∧ QAt hi w' g (c.need ok f) ∧ Upd g w w' := by
  obtain ⟨all, n, a1, a2, a3, a4⟩ := h
  cases ok with
  | true =>
    refine (RCur.need_met hi g all n c.s c.e w a1 f).mono ?_
    rintro en w' ⟨rfl, b1, b2⟩
    refine ⟨rfl, ⟨all, n, ?_, a2, a3, a4⟩, b2⟩
    simpa [Cu.need] using b1
  | false =>
    refine (RCur.need_any hi g all n c.s c.e w a1 f).mono ?_
    rintro en w' ⟨rfl, b1, b2⟩
    refine ⟨rfl, ⟨all, n, ?_, a2, a3, a4⟩, b2⟩
    simpa [Cu.need, fstE] using b1
theorem q_byte {hi g : Nat} {c : Cu} {w : World} (h : QAt hi w g c) :
    Calls Try.prog 24 #[.pointer (some ⟨g, 0, none⟩)] w fun en w' => en = .returned (.int .u8 c.byteV) ∧ QAt hi w' g c.byteS ∧ Upd g w w' := by
  obtain ⟨all, k, a1, a2, a3, a4⟩ := h
  have hn := a1.2.1
  have hl : c.xs.length = all.length - k := by rw [a2, List.length_drop]
  unfold Cu.byteV Cu.byteS Cu.bytesV Cu.bytesS
  by_cases hk : c.okB 1 = true
  · rw [if_pos hk, if_pos hk]
    obtain ⟨h1, h2, h3⟩ := (Cu.okB_iff c 1).1 hk
    have ha := a1
    rw [h1] at ha
    refine (RCur.byte_ok hi g all k c.e w ha (by omega)).mono ?_
    rintro en w' ⟨rfl, b3, b4⟩
    have e1 : all.getD k 0 = (c.xs.take (1 : Int).toNat).headD 0 := by
      rw [a2, drop_cons (show k < all.length by omega) 0]
      rfl
    refine ⟨by rw [e1], ⟨all, k + 1, ?_, ?_, a3, ?_⟩, b4⟩
    · show RAt hi w' g all (k + 1) c.s c.e
      rw [h1]
      exact b3
    · show c.xs.drop 1 = _
      rw [a2, List.drop_drop]
    · intro hs
      rw [show c.s = true from hs] at h1
      cases h1
  · rw [if_neg hk, if_neg hk]
    refine (RCur.byte_short hi g all k c.s c.e w a1 ?_).mono ?_
    · rcases Cu.not_okB hk with h | h | h
      · exact .inl h
      · omega
      · exact .inr (by omega)
    rintro en w' ⟨rfl, b3, b4⟩
    exact ⟨rfl, ⟨all, all.length, b3, (List.drop_length).symm, a3, fun _ => rfl⟩, b4⟩
theorem q_end {hi g : Nat} {c : Cu} {w : World} (h : QAt hi w g c) :
    Calls Try.prog 29 #[.pointer (some ⟨g, 0, none⟩)] w fun en w' => en = .returned (.tuple #[]) ∧ QAt hi w' g c.fin ∧ Upd g w w' := by
  obtain ⟨all, k, a1, a2, a3, a4⟩ := h
  have hn := a1.2.1
  have e1 : (c.xs = []) = (k = all.length) := by
    rw [a2]
    exact propext ⟨fun h => by have := congrArg List.length h; rw [List.length_drop] at this; simp at this; omega, fun h => by rw [h, List.drop_length]⟩
  rw [fin_eq]
  refine (RCur.end_any hi g all k c.s c.e w a1).mono ?_
  rintro en w' ⟨rfl, b1, b2⟩
  refine ⟨rfl, ⟨all, k, ?_, a2, a3, a4⟩, b2⟩
  show RAt hi w' g all k c.s (if c.xs = [] then c.e else fstE c.e 3)
  by_cases hc : k = all.length
  · rw [if_pos (e1.mpr hc)]
    rw [if_pos hc] at b1
    exact b1
  · rw [if_neg (fun hh => hc (e1.mp hh))]
    rw [if_neg hc] at b1
    exact b1
def Cu.okW (c : Cu) (n : Int) : Bool := !c.s && decide (0 ≤ n) && decide (2 * n ≤ (c.xs.length : Int))
def Cu.wordsV (c : Cu) (n : Int) : List Int := if c.okW n = true then Take.words (c.xs.take (2 * n.toNat)) else []
def Cu.wordsS (c : Cu) (n : Int) : Cu := if c.okW n = true then ⟨c.xs.drop (2 * n.toNat), c.s, c.e⟩ else c.fail
theorem Cu.okW_iff (c : Cu) (n : Int) : c.okW n = true ↔ c.s = false ∧ 0 ≤ n ∧ 2 * n ≤ (c.xs.length : Int) := by
  simp [Cu.okW, and_assoc]
theorem Cu.good_wordsS {c : Cu} (h : c.good) (n : Int) : (c.wordsS n).good := by
  unfold Cu.wordsS
  split
  · rename_i hk
    refine ⟨isBytes_drop h.1 _, by have := h.2.1; simp only [List.length_drop]; omega, fun hs => ?_⟩
    rw [((Cu.okW_iff c n).1 hk).1] at hs
    cases hs
  · exact Cu.good_fail c
theorem Cu.not_okW {c : Cu} {n : Int} (h : ¬ c.okW n = true) : c.s = true ∨ n < 0 ∨ (c.xs.length : Int) < 2 * n := by
  rw [Cu.okW_iff] at h
  cases hs : c.s with
  | true => exact .inl rfl
  | false => exact .inr (by have : ¬ (0 ≤ n ∧ 2 * n ≤ (c.xs.length : Int)) := fun hh => h ⟨hs, hh.1, hh.2⟩; omega)
theorem row16_nil (A : Option Addr) (lo hi : Nat) (w : World) : Row16 lo hi w A [] := fun W' _ => ⟨rfl, Nat.zero_le _, fun h => absurd h (Nat.lt_irrefl 0)⟩
theorem p_words {lo hi g : Nat} {c : Cu} {w : World} (h : PAt lo hi w g c) (n : Int) :
    Calls Try.prog 43 #[.pointer (some ⟨g, 0, none⟩), .int .i64 n] w fun en w' => ∃ A' c', en = .returned (.slice A' (c.wordsV n).length c') ∧ (c.wordsV n).length ≤ c' ∧ Row16 w.heap.size w'.heap.size w' A' (c.wordsV n) ∧ PAt lo hi w' g (c.wordsS n) ∧ Upd g w w' := by
  have hg := Cu.good_wordsS h.2 n
  unfold Cu.wordsV PAt
  unfold Cu.wordsS at hg ⊢
  by_cases hk : c.okW n = true
  · rw [if_pos hk] at hg ⊢
    rw [if_pos hk]
    obtain ⟨h1, h2, h3⟩ := (Cu.okW_iff c n).1 hk
    obtain ⟨m, rfl⟩ := Int.eq_ofNat_of_zero_le h2
    have ha := h.1
    rw [h1] at ha
    refine (Cur.words_ok lo hi g c.xs c.e m w ha (by omega) h.2.2.1 h.2.1).mono ?_
    rintro en w' ⟨A', c', rfl, b1, b2, b3, b4⟩
    refine ⟨A', c', rfl, b1, b2, ⟨?_, hg⟩, b4⟩
    show At lo hi w' g _ c.s c.e
    rw [h1]
    exact b3
  · rw [if_neg hk] at hg ⊢
    rw [if_neg hk]
    refine (Cur.words_short lo hi g c.xs c.s c.e n w h.1 h.2.2.1 (Cu.not_okW hk)).mono ?_
    rintro en w' ⟨A', c', rfl, b3, b4⟩
    exact ⟨A', c', rfl, Nat.zero_le _, row16_nil _ _ _ _, ⟨b3, hg⟩, b4⟩
theorem q_words {hi g : Nat} {c : Cu} {w : World} (h : QAt hi w g c) (n : Int) :
    Calls Try.prog 26 #[.pointer (some ⟨g, 0, none⟩), .int .i64 n] w fun en w' => ∃ A' c', en = .returned (.slice A' (c.wordsV n).length c') ∧ (c.wordsV n).length ≤ c' ∧ Row16 w.heap.size w'.heap.size w' A' (c.wordsV n) ∧ QAt hi w' g (c.wordsS n) ∧ Upd g w w' := by
  obtain ⟨all, k, a1, a2, a3, a4⟩ := h
  have hn := a1.2.1
  have hl : c.xs.length = all.length - k := by rw [a2, List.length_drop]
  unfold Cu.wordsV Cu.wordsS
  by_cases hk : c.okW n = true
  · rw [if_pos hk, if_pos hk]
    obtain ⟨h1, h2, h3⟩ := (Cu.okW_iff c n).1 hk
    obtain ⟨m, rfl⟩ := Int.eq_ofNat_of_zero_le h2
    have ha := a1
    rw [h1] at ha
    refine (RCur.words_ok hi g all k c.e m w ha (by omega) a3).mono ?_
    rintro en w' ⟨A', c', rfl, b1, b2, b3, b4⟩
    rw [← a2] at b1 b2
    refine ⟨A', c', by rw [a2]; rfl, b1, b2, ⟨all, k + 2 * m, ?_, ?_, a3, ?_⟩, b4⟩
    · show RAt hi w' g all (k + 2 * m) c.s c.e
      rw [h1]
      exact b3
    · show c.xs.drop (2 * m) = _
      rw [a2, List.drop_drop]
    · intro hs
      rw [show c.s = true from hs] at h1
      cases h1
  · rw [if_neg hk, if_neg hk]
    refine (RCur.words_short hi g all k c.s c.e n w a1 ?_).mono ?_
    · rcases Cu.not_okW hk with h | h | h
      · exact .inl h
      · exact .inr (.inl h)
      · exact .inr (.inr (by omega))
    rintro en w' ⟨A', c', rfl, b3, b4⟩
    exact ⟨A', c', rfl, Nat.zero_le _, row16_nil _ _ _ _, ⟨all, all.length, b3, (List.drop_length).symm, a3, fun _ => rfl⟩, b4⟩
theorem Take.wordsBd {l : List Int} (h : isBytes l) : ∀ x ∈ Take.words l, 0 ≤ x ∧ x < 65536 := by
  unfold Take.words Take.pre
  split
  · intro x hx
    obtain ⟨j, _, rfl⟩ := List.mem_map.1 hx
    have h1 := isBytes_rd h (2 * j)
    have h2 := isBytes_rd h (2 * j + 1)
    unfold Take.wordAt
    omega
  · intro x hx
    cases hx
theorem Cu.wordsV_bd {c : Cu} (h : c.good) (n : Int) : ∀ x ∈ c.wordsV n, 0 ≤ x ∧ x < 65536 := by
  unfold Cu.wordsV
  split
  · exact Take.wordsBd (isBytes_take h.1 _)
  · intro x hx
    cases hx
def Cu.wordV (c : Cu) : Int := (c.wordsV 1).headD 0
def Cu.wordS (c : Cu) : Cu := c.wordsS 1
theorem Cu.good_wordS {c : Cu} (h : c.good) : c.wordS.good := Cu.good_wordsS h 1
theorem Cu.wordV_bd {c : Cu} (h : c.good) : 0 ≤ c.wordV ∧ c.wordV < 65536 := by
  have := Cu.wordsV_bd h 1
  unfold Cu.wordV
  cases hv : c.wordsV 1 with
  | nil => simp
  | cons x l => rw [hv] at this; exact this x List.mem_cons_self
theorem two_of {c : Cu} (h : c.okW 1 = true) : ∃ x y l, c.xs = x :: y :: l := by
  obtain ⟨_, _, h3⟩ := (Cu.okW_iff c 1).1 h
  match hx : c.xs with
  | [] => rw [hx] at h3; simp at h3
  | [x] => rw [hx] at h3; simp at h3
  | x :: y :: l => exact ⟨x, y, l, rfl⟩
theorem p_word {lo hi g : Nat} {c : Cu} {w : World} (h : PAt lo hi w g c) :
    Calls Try.prog 37 #[.pointer (some ⟨g, 0, none⟩)] w fun en w' => en = .returned (.int .u16 c.wordV) ∧ PAt lo hi w' g c.wordS ∧ Upd g w w' := by
  have hg := Cu.good_wordS h.2
  unfold Cu.wordV Cu.wordsV PAt
  unfold Cu.wordS Cu.wordsS at hg ⊢
  by_cases hk : c.okW 1 = true
  · rw [if_pos hk] at hg ⊢
    rw [if_pos hk]
    obtain ⟨x, y, l, hx⟩ := two_of hk
    have h1 := ((Cu.okW_iff c 1).1 hk).1
    have ha := h.1
    have hl := h.2.2.1
    have hbb := h.2.1
    rw [h1, hx] at ha
    rw [hx] at hl hbb
    refine (Cur.word_ok lo hi g x y l c.e w ha hl hbb).mono ?_
    rintro en w' ⟨rfl, b3, b4⟩
    refine ⟨by rw [hx, show (2 * (1 : Int).toNat) = 2 * 1 from rfl, words_two]; rfl, ⟨?_, hg⟩, b4⟩
    show At lo hi w' g (c.xs.drop 2) c.s c.e
    rw [h1, hx]
    exact b3
  · rw [if_neg hk] at hg ⊢
    rw [if_neg hk]
    refine (Cur.word_short lo hi g c.xs c.s c.e w h.1 h.2.2.1 ?_).mono ?_
    · rcases Cu.not_okW hk with h | h | h
      · exact .inl h
      · omega
      · exact .inr (by omega)
    rintro en w' ⟨rfl, b3, b4⟩
    exact ⟨rfl, ⟨b3, hg⟩, b4⟩
theorem q_word {hi g : Nat} {c : Cu} {w : World} (h : QAt hi w g c) :
    Calls Try.prog 27 #[.pointer (some ⟨g, 0, none⟩)] w fun en w' => en = .returned (.int .u16 c.wordV) ∧ QAt hi w' g c.wordS ∧ Upd g w w' := by
  obtain ⟨all, k, a1, a2, a3, a4⟩ := h
  have hn := a1.2.1
  have hl : c.xs.length = all.length - k := by rw [a2, List.length_drop]
  unfold Cu.wordV Cu.wordS Cu.wordsV Cu.wordsS
  by_cases hk : c.okW 1 = true
  · rw [if_pos hk, if_pos hk]
    obtain ⟨h1, h2, h3⟩ := (Cu.okW_iff c 1).1 hk
    have ha := a1
    rw [h1] at ha
    refine (RCur.word_ok hi g all k c.e w ha (by omega) a3).mono ?_
    rintro en w' ⟨rfl, b3, b4⟩
    have e1 : (all.getD k 0 * 256 + all.getD (k + 1) 0) = (Take.words (c.xs.take (2 * (1 : Int).toNat))).headD 0 := by
      rw [a2, drop_cons (show k < all.length by omega) 0, drop_cons (show k + 1 < all.length by omega) 0, show (2 * (1 : Int).toNat) = 2 * 1 from rfl, words_two]
      rfl
    refine ⟨by rw [e1], ⟨all, k + 2, ?_, ?_, a3, ?_⟩, b4⟩
    · show RAt hi w' g all (k + 2) c.s c.e
      rw [h1]
      exact b3
    · show c.xs.drop 2 = _
      rw [a2, List.drop_drop]
    · intro hs
      rw [show c.s = true from hs] at h1
      cases h1
  · rw [if_neg hk, if_neg hk]
    refine (RCur.word_short hi g all k c.s c.e w a1 ?_).mono ?_
    · rcases Cu.not_okW hk with h | h | h
      · exact .inl h
      · omega
      · exact .inr (by omega)
    rintro en w' ⟨rfl, b3, b4⟩
    exact ⟨rfl, ⟨all, all.length, b3, (List.drop_length).symm, a3, fun _ => rfl⟩, b4⟩
end Go.Proofs.Ytmglilncdffbkaa.Cu
end
section
namespace Go.Proofs.Ytmglilncdffbkaa.Same
open Go.RowKit Go.Proofs.Ytmglilncdffbkaa.P Go.Proofs.Ytmglilncdffbkaa.E Go.Proofs.YtmglilncdffbkaaW.PrintWords Go.Proofs.YtmglilncdffbkaaW.PrintLast Go.Proofs.YtmglilncdffbkaaW.PrintMore
theorem good_code {m : Msg} (h : goodM m) {v : Int} (hv : 0 ≤ v ∧ v < 256) : goodM { m with code := v } := by
  obtain ⟨h1, h2⟩ := h
  refine ⟨?_, h2⟩
  simp only [okM, u8B, u16B, Bool.and_eq_true, decide_eq_true_eq] at h1 ⊢
  simp only [h1, hv, and_self, true_and]
theorem set_code {W : World} {cx : Array Value} {m : Msg} (h : IsMsg W cx m) {v : Int} (hv : 0 ≤ v ∧ v < 256) : IsMsg W (cx.setIfInBounds 0 (.int .u8 v)) { m with code := v } := by
  obtain ⟨A12, c12, A13, c13, A14, c14, A15, c15, A21, c21, rfl, ok, h12, h13, h14, h15, h21⟩ := h
  exact ⟨A12, c12, A13, c13, A14, c14, A15, c15, A21, c21, by simp, good_code ok hv, h12, h13, h14, h15, h21⟩
theorem good_addr {m : Msg} (h : goodM m) {v : Int} (hv : 0 ≤ v ∧ v < 65536) : goodM { m with addr := v } := by
  obtain ⟨h1, h2⟩ := h
  refine ⟨?_, h2⟩
  simp only [okM, u8B, u16B, Bool.and_eq_true, decide_eq_true_eq] at h1 ⊢
  simp only [h1, hv, and_self, true_and]
theorem set_addr {W : World} {cx : Array Value} {m : Msg} (h : IsMsg W cx m) {v : Int} (hv : 0 ≤ v ∧ v < 65536) : IsMsg W (cx.setIfInBounds 2 (.int .u16 v)) { m with addr := v } := by
  obtain ⟨A12, c12, A13, c13, A14, c14, A15, c15, A21, c21, rfl, ok, h12, h13, h14, h15, h21⟩ := h
  exact ⟨A12, c12, A13, c13, A14, c14, A15, c15, A21, c21, by simp, good_addr ok hv, h12, h13, h14, h15, h21⟩
theorem good_count {m : Msg} (h : goodM m) {v : Int} (hv : 0 ≤ v ∧ v < 65536) : goodM { m with count := v } := by
  obtain ⟨h1, h2⟩ := h
  refine ⟨?_, h2⟩
  simp only [okM, u8B, u16B, Bool.and_eq_true, decide_eq_true_eq] at h1 ⊢
  simp only [h1, hv, and_self, true_and]
theorem set_count {W : World} {cx : Array Value} {m : Msg} (h : IsMsg W cx m) {v : Int} (hv : 0 ≤ v ∧ v < 65536) : IsMsg W (cx.setIfInBounds 3 (.int .u16 v)) { m with count := v } := by
  obtain ⟨A12, c12, A13, c13, A14, c14, A15, c15, A21, c21, rfl, ok, h12, h13, h14, h15, h21⟩ := h
  exact ⟨A12, c12, A13, c13, A14, c14, A15, c15, A21, c21, by simp, good_count ok hv, h12, h13, h14, h15, h21⟩
theorem good_value {m : Msg} (h : goodM m) {v : Int} (hv : 0 ≤ v ∧ v < 65536) : goodM { m with value := v } := by
  obtain ⟨h1, h2⟩ := h
  refine ⟨?_, h2⟩
  simp only [okM, u8B, u16B, Bool.and_eq_true, decide_eq_true_eq] at h1 ⊢
  simp only [h1, hv, and_self, true_and]
theorem set_value {W : World} {cx : Array Value} {m : Msg} (h : IsMsg W cx m) {v : Int} (hv : 0 ≤ v ∧ v < 65536) : IsMsg W (cx.setIfInBounds 4 (.int .u16 v)) { m with value := v } := by
  obtain ⟨A12, c12, A13, c13, A14, c14, A15, c15, A21, c21, rfl, ok, h12, h13, h14, h15, h21⟩ := h
  exact ⟨A12, c12, A13, c13, A14, c14, A15, c15, A21, c21, by simp, good_value ok hv, h12, h13, h14, h15, h21⟩
theorem good_and {m : Msg} (h : goodM m) {v : Int} (hv : 0 ≤ v ∧ v < 65536) : goodM { m with and_ := v } := by
  obtain ⟨h1, h2⟩ := h
  refine ⟨?_, h2⟩
  simp only [okM, u8B, u16B, Bool.and_eq_true, decide_eq_true_eq] at h1 ⊢
  simp only [h1, hv, and_self, true_and]
theorem set_and {W : World} {cx : Array Value} {m : Msg} (h : IsMsg W cx m) {v : Int} (hv : 0 ≤ v ∧ v < 65536) : IsMsg W (cx.setIfInBounds 5 (.int .u16 v)) { m with and_ := v } := by
  obtain ⟨A12, c12, A13, c13, A14, c14, A15, c15, A21, c21, rfl, ok, h12, h13, h14, h15, h21⟩ := h
  exact ⟨A12, c12, A13, c13, A14, c14, A15, c15, A21, c21, by simp, good_and ok hv, h12, h13, h14, h15, h21⟩
theorem good_or {m : Msg} (h : goodM m) {v : Int} (hv : 0 ≤ v ∧ v < 65536) : goodM { m with or_ := v } := by
  obtain ⟨h1, h2⟩ := h
  refine ⟨?_, h2⟩
  simp only [okM, u8B, u16B, Bool.and_eq_true, decide_eq_true_eq] at h1 ⊢
  simp only [h1, hv, and_self, true_and]
theorem set_or {W : World} {cx : Array Value} {m : Msg} (h : IsMsg W cx m) {v : Int} (hv : 0 ≤ v ∧ v < 65536) : IsMsg W (cx.setIfInBounds 6 (.int .u16 v)) { m with or_ := v } := by
  obtain ⟨A12, c12, A13, c13, A14, c14, A15, c15, A21, c21, rfl, ok, h12, h13, h14, h15, h21⟩ := h
  exact ⟨A12, c12, A13, c13, A14, c14, A15, c15, A21, c21, by simp, good_or ok hv, h12, h13, h14, h15, h21⟩
theorem good_addr2 {m : Msg} (h : goodM m) {v : Int} (hv : 0 ≤ v ∧ v < 65536) : goodM { m with addr2 := v } := by
  obtain ⟨h1, h2⟩ := h
  refine ⟨?_, h2⟩
  simp only [okM, u8B, u16B, Bool.and_eq_true, decide_eq_true_eq] at h1 ⊢
  simp only [h1, hv, and_self, true_and]
theorem set_addr2 {W : World} {cx : Array Value} {m : Msg} (h : IsMsg W cx m) {v : Int} (hv : 0 ≤ v ∧ v < 65536) : IsMsg W (cx.setIfInBounds 7 (.int .u16 v)) { m with addr2 := v } := by
  obtain ⟨A12, c12, A13, c13, A14, c14, A15, c15, A21, c21, rfl, ok, h12, h13, h14, h15, h21⟩ := h
  exact ⟨A12, c12, A13, c13, A14, c14, A15, c15, A21, c21, by simp, good_addr2 ok hv, h12, h13, h14, h15, h21⟩
theorem set_words {W : World} {cx : Array Value} {m : Msg} (h : IsMsg W cx m) {A : Option Addr} {n : Nat} {l : List Int} (hn : l.length ≤ n) (hg : ∀ x ∈ l, 0 ≤ x ∧ x < 65536) (hr : Kd.C (Kd.int .u16) W A l.length l) : IsMsg W (cx.setIfInBounds 12 (.slice A l.length n)) { m with words := l } := by
  obtain ⟨A12, c12, A13, c13, A14, c14, A15, c15, A21, c21, rfl, ok, h12, h13, h14, h15, h21⟩ := h
  exact ⟨A, n, A13, c13, A14, c14, A15, c15, A21, c21, by simp, ⟨ok.1, hg, ok.2.2⟩, ⟨hr, hn⟩, h13, h14, h15, h21⟩
def NilL (cx : Array Value) : Prop := ∀ (i : Nat) A n, (i = 15 ∨ i = 21) → cx[i]? = some (.slice A 0 n) → A = none ∧ n = 0
theorem NilL.set {cx : Array Value} (h : NilL cx) {i : Nat} (hi : i ≠ 15 ∧ i ≠ 21) {v : Value} : NilL (cx.setIfInBounds i v) := by
  intro j A n hj e
  refine h j A n hj ?_
  rwa [Array.getElem?_setIfInBounds_ne (by omega)] at e
end Go.Proofs.Ytmglilncdffbkaa.Same
end
section
namespace Go.Proofs.Ytmglilncdffbkaa.PS
open Go.RowKit Go.Proofs.Ytmglilncdffbkaa.P Go.Proofs.Ytmglilncdffbkaa.E Go.Proofs.Ytmglilncdffbkaa.Cur Go.Proofs.Ytmglilncdffbkaa.RCur Go.Proofs.Ytmglilncdffbkaa.Cu Go.Proofs.Ytmglilncdffbkaa.Same Go.Proofs.YtmglilncdffbkaaW.PrintWords Go.Proofs.YtmglilncdffbkaaW.PrintLast Go.Proofs.YtmglilncdffbkaaW.PrintMore
structure St (w0 : World) (gr g gm : Nat) (w : World) (c : Cu) (m : Msg) : Prop where
  b : Below w0.heap.size w0 w
  cur : ∃ lo hi, PAt lo hi w g c ∧ (gm < lo ∨ hi ≤ gm) ∧ (gr < lo ∨ hi ≤ gr)
  cx : ∃ cx, w.heap[gm]? = some (.cells cx 30 (0, 0)) ∧ ∀ W', Kept w W' (fun k => k = g ∨ k = gm ∨ k = gr) → IsMsg W' cx m
  res : w.heap[gr]? = some (.cells zeroC 30 (0, 0))
  h1 : w0.heap.size ≤ g ∧ w0.heap.size ≤ gm ∧ w0.heap.size ≤ gr
  h2 : gm ≠ g ∧ gr ≠ g ∧ gr ≠ gm
  nl : ∃ cx, w.heap[gm]? = some (.cells cx 30 (0, 0)) ∧ NilL cx
section
variable {w0 w w' : World} {gr g gm : Nat} {c c' : Cu} {m m' : Msg}
theorem St.upd (h : St w0 gr g gm w c m) (k : Upd g w w') (hc : ∃ lo hi, PAt lo hi w' g c' ∧ (gm < lo ∨ hi ≤ gm) ∧ (gr < lo ∨ hi ≤ gr)) : St w0 gr g gm w' c' m := by
  obtain ⟨cx, a1, a2⟩ := h.cx
  refine ⟨h.b.trans (k.below h.h1.1 h.b.size), hc, ⟨cx, blk_kept a1 k.kept h.h2.1, fun W' hk => a2 W' ((k.kept.mono fun j hj => .inl hj).then_ hk (fun j hj => .inl hj))⟩, blk_kept h.res k.kept h.h2.2.1, h.h1, h.h2, by obtain ⟨cy, n1, n2⟩ := h.nl; exact ⟨cy, blk_kept n1 k.kept h.h2.1, n2⟩⟩
theorem St.good (h : St w0 gr g gm w c m) : c.good := by
  obtain ⟨lo, hi, a, _⟩ := h.cur
  exact a.2
theorem St.msg (h : St w0 gr g gm w c m) : goodM m := by
  obtain ⟨cx, a1, a2⟩ := h.cx
  exact (a2 w (Kept.refl _ _)).good
theorem St.below (h : St w0 gr g gm w c m) (hb : Below w.heap.size w w') : St w0 gr g gm w' c m := by
  obtain ⟨cx, a1, a2⟩ := h.cx
  refine ⟨h.b.trans (hb.mono h.b.size), ?_, ⟨cx, blk_below a1 hb, fun W' hk => a2 W' ((Kept.of_below hb _).then_ hk (fun j hj => .inl hj))⟩, blk_below h.res hb, h.h1, h.h2, by obtain ⟨cy, n1, n2⟩ := h.nl; exact ⟨cy, blk_below n1 hb, n2⟩⟩
  obtain ⟨lo, hi, a, s1, s2⟩ := h.cur
  exact ⟨lo, hi, a.below hb, s1, s2⟩
theorem St.fin (h : St w0 gr g gm w c m) : Calls Try.prog 22 #[.pointer (some ⟨g, 0, none⟩)] w fun en w' => en = .returned (.tuple #[]) ∧ St w0 gr g gm w' c.fin m := by
  obtain ⟨lo, hi, hc, s1, s2⟩ := h.cur
  refine (p_end hc).mono ?_
  rintro en w' ⟨rfl, b1, b2⟩
  exact ⟨rfl, h.upd b2 ⟨lo, hi, b1, s1, s2⟩⟩
theorem St.err (h : St w0 gr g gm w c m) : Calls Try.prog 23 #[.pointer (some ⟨g, 0, none⟩)] w fun en w' => en = .returned (.int .i64 c.e) ∧ St w0 gr g gm w' c m := by
  obtain ⟨lo, hi, hc, s1, s2⟩ := h.cur
  refine (p_err hc).mono ?_
  rintro en w' ⟨rfl, rfl⟩
  exact ⟨rfl, h⟩
theorem St.put (h : St w0 gr g gm w c m) (i : Nat) (v : Value) (hi : i ≠ 15 ∧ i ≠ 21) (hm : ∀ W' cx, Kept w W' (fun k => k = g ∨ k = gm ∨ k = gr) → IsMsg W' cx m → IsMsg W' (cx.setIfInBounds i v) m') : St w0 gr g gm (w.setCell ⟨gm, i, none⟩ v) c m' := by
  obtain ⟨cx, a1, a2⟩ := h.cx
  have hk : Kept w (w.setCell ⟨gm, i, none⟩ v) (fun k => k = gm) := (Kept.refl w (fun k => k = gm)).setCell (p := ⟨gm, i, none⟩) (.inl rfl) v
  refine ⟨below_set h.b h.h1.2.1, ?_, ⟨_, blk_put a1 i v rfl, fun W' k => ?_⟩, blk_kept h.res hk h.h2.2.2, h.h1, h.h2, by obtain ⟨cy, n1, n2⟩ := h.nl; exact ⟨_, blk_put n1 i v rfl, n2.set hi⟩⟩
  · obtain ⟨lo, hi, a, s1, s2⟩ := h.cur
    exact ⟨lo, hi, a.on hk (fun k e => by rw [e]; exact s1) (fun e => h.h2.1 e.symm), s1, s2⟩
  · have k2 : Kept w W' (fun k => k = g ∨ k = gm ∨ k = gr) := (hk.mono fun j hj => .inr (.inl hj)).then_ k (fun j hj => .inl hj)
    exact hm W' cx k2 (a2 W' k2)
theorem St.put_addr (h : St w0 gr g gm w c m) {v : Int} (hv : 0 ≤ v ∧ v < 65536) : St w0 gr g gm (w.setCell ⟨gm, 2, none⟩ (.int .u16 v)) c { m with addr := v } :=
  h.put 2 _ (by decide) fun W' cx _ hm => set_addr hm hv
theorem St.put_count (h : St w0 gr g gm w c m) {v : Int} (hv : 0 ≤ v ∧ v < 65536) : St w0 gr g gm (w.setCell ⟨gm, 3, none⟩ (.int .u16 v)) c { m with count := v } :=
  h.put 3 _ (by decide) fun W' cx _ hm => set_count hm hv
theorem St.put_value (h : St w0 gr g gm w c m) {v : Int} (hv : 0 ≤ v ∧ v < 65536) : St w0 gr g gm (w.setCell ⟨gm, 4, none⟩ (.int .u16 v)) c { m with value := v } :=
  h.put 4 _ (by decide) fun W' cx _ hm => set_value hm hv
theorem St.put_and (h : St w0 gr g gm w c m) {v : Int} (hv : 0 ≤ v ∧ v < 65536) : St w0 gr g gm (w.setCell ⟨gm, 5, none⟩ (.int .u16 v)) c { m with and_ := v } :=
  h.put 5 _ (by decide) fun W' cx _ hm => set_and hm hv
theorem St.put_or (h : St w0 gr g gm w c m) {v : Int} (hv : 0 ≤ v ∧ v < 65536) : St w0 gr g gm (w.setCell ⟨gm, 6, none⟩ (.int .u16 v)) c { m with or_ := v } :=
  h.put 6 _ (by decide) fun W' cx _ hm => set_or hm hv
theorem St.put_addr2 (h : St w0 gr g gm w c m) {v : Int} (hv : 0 ≤ v ∧ v < 65536) : St w0 gr g gm (w.setCell ⟨gm, 7, none⟩ (.int .u16 v)) c { m with addr2 := v } :=
  h.put 7 _ (by decide) fun W' cx _ hm => set_addr2 hm hv
theorem St.put_words (h : St w0 gr g gm w c m) {A : Option Addr} {n : Nat} {l : List Int} (hn : l.length ≤ n) (hg : ∀ x ∈ l, 0 ≤ x ∧ x < 65536) (hr : ∀ W', Kept w W' (fun k => k = g ∨ k = gm ∨ k = gr) → Kd.C (Kd.int .u16) W' A l.length l) : St w0 gr g gm (w.setCell ⟨gm, 12, none⟩ (.slice A l.length n)) c { m with words := l } :=
  h.put 12 _ (by decide) fun W' cx k hm => set_words hm hn hg (hr W' k)
theorem St.at_code (h : St w0 gr g gm w c m) : w.cell? ⟨gm, 0, none⟩ = some (.int .u8 m.code) ∧ w.frozen? ⟨gm, 0, none⟩ = false := by
  obtain ⟨cx, a1, a2⟩ := h.cx
  exact ⟨bx_code a1 (a2 w (Kept.refl _ _)), blk_frozen a1 0⟩
theorem St.at_addr (h : St w0 gr g gm w c m) : w.cell? ⟨gm, 2, none⟩ = some (.int .u16 m.addr) ∧ w.frozen? ⟨gm, 2, none⟩ = false := by
  obtain ⟨cx, a1, a2⟩ := h.cx
  exact ⟨bx_addr a1 (a2 w (Kept.refl _ _)), blk_frozen a1 2⟩
theorem St.at_count (h : St w0 gr g gm w c m) : w.cell? ⟨gm, 3, none⟩ = some (.int .u16 m.count) ∧ w.frozen? ⟨gm, 3, none⟩ = false := by
  obtain ⟨cx, a1, a2⟩ := h.cx
  exact ⟨bx_count a1 (a2 w (Kept.refl _ _)), blk_frozen a1 3⟩
theorem St.at_value (h : St w0 gr g gm w c m) : w.cell? ⟨gm, 4, none⟩ = some (.int .u16 m.value) ∧ w.frozen? ⟨gm, 4, none⟩ = false := by
  obtain ⟨cx, a1, a2⟩ := h.cx
  exact ⟨bx_value a1 (a2 w (Kept.refl _ _)), blk_frozen a1 4⟩
theorem St.at_and (h : St w0 gr g gm w c m) : w.cell? ⟨gm, 5, none⟩ = some (.int .u16 m.and_) ∧ w.frozen? ⟨gm, 5, none⟩ = false := by
  obtain ⟨cx, a1, a2⟩ := h.cx
  exact ⟨bx_and a1 (a2 w (Kept.refl _ _)), blk_frozen a1 5⟩
theorem St.at_or (h : St w0 gr g gm w c m) : w.cell? ⟨gm, 6, none⟩ = some (.int .u16 m.or_) ∧ w.frozen? ⟨gm, 6, none⟩ = false := by
  obtain ⟨cx, a1, a2⟩ := h.cx
  exact ⟨bx_or a1 (a2 w (Kept.refl _ _)), blk_frozen a1 6⟩
theorem St.at_addr2 (h : St w0 gr g gm w c m) : w.cell? ⟨gm, 7, none⟩ = some (.int .u16 m.addr2) ∧ w.frozen? ⟨gm, 7, none⟩ = false := by
  obtain ⟨cx, a1, a2⟩ := h.cx
  exact ⟨bx_addr2 a1 (a2 w (Kept.refl _ _)), blk_frozen a1 7⟩
theorem St.at_words (h : St w0 gr g gm w c m) : ∃ A n, w.cell? ⟨gm, 12, none⟩ = some (.slice A m.words.length n) ∧ w.frozen? ⟨gm, 12, none⟩ = false := by
  obtain ⟨cx, a1, a2⟩ := h.cx
  obtain ⟨A12, c12, A13, c13, A14, c14, A15, c15, A21, c21, l, _⟩ := (a2 w (Kept.refl _ _)).lists
  exact ⟨A12, c12, (blk_cell a1 12).trans l.1, blk_frozen a1 12⟩
theorem St.held (h : St w0 gr g gm w c m) : Held w0 [(gr, zeroC)] w := ⟨h.b, fun p hp => by obtain rfl := List.mem_singleton.1 hp; exact ⟨h.h1.2.2, h.res⟩, List.pairwise_singleton _ _⟩
theorem St.held2 (h : St w0 gr g gm w c m) : ∃ cx, Held w0 [(gr, zeroC), (gm, cx)] w ∧ cx.size = 22 ∧ ∀ w', Up1 gr w w' → IsMsg w' cx m := by
  obtain ⟨cx, a1, a2⟩ := h.cx
  refine ⟨cx, ⟨h.b, fun p hp => ?_, ?_⟩, (a2 w (Kept.refl _ _)).size, fun w' hu => a2 w' (hu.kept.mono fun j hj => .inr (.inr hj))⟩
  · rcases List.mem_cons.1 hp with rfl | hp
    · exact ⟨h.h1.2.2, h.res⟩
    · obtain rfl := List.mem_singleton.1 hp
      exact ⟨h.h1.2.1, a1⟩
  · refine List.pairwise_cons.2 ⟨fun q hq => ?_, List.pairwise_singleton _ _⟩
    obtain rfl := List.mem_singleton.1 hq
    exact h.h2.2.2
end
theorem zero_nil : NilL zeroC := by
  intro i A n hi e
  rcases hi with rfl | rfl <;> exact ⟨(Value.slice.inj (Option.some.inj e)).1.symm, (Value.slice.inj (Option.some.inj e)).2.2.symm⟩
structure Nw (w0 : World) (gr g : Nat) (w : World) (c : Cu) : Prop where
  b : Below w0.heap.size w0 w
  cur : ∃ lo, PAt lo g w g c ∧ gr < lo
  res : w.heap[gr]? = some (.cells zeroC 30 (0, 0))
  h1 : w0.heap.size ≤ g ∧ w0.heap.size ≤ gr
end Go.Proofs.Ytmglilncdffbkaa.PS
end
section
namespace Go.Proofs.Ytmglilncdffbkaa.PS
open Go.RowKit Go.Proofs.Ytmglilncdffbkaa.P Go.Proofs.Ytmglilncdffbkaa.E Go.Proofs.Ytmglilncdffbkaa.Cur Go.Proofs.Ytmglilncdffbkaa.RCur Go.Proofs.Ytmglilncdffbkaa.Cu Go.Proofs.Ytmglilncdffbkaa.Same Go.Proofs.YtmglilncdffbkaaW.PrintWords Go.Proofs.YtmglilncdffbkaaW.PrintLast Go.Proofs.YtmglilncdffbkaaW.PrintMore
structure Sk (wb w0 : World) (gr g gm : Nat) (w : World) (c : Cu) (m : Msg) : Prop where
  st : St w0 gr g gm w c m
  kp : Kept wb w (fun k => k = g ∨ k = gm)
section
variable {wb w0 w w' : World} {gr g gm : Nat} {c c' : Cu} {m m' : Msg}
theorem Sk.upd (h : Sk wb w0 gr g gm w c m) (k : Upd g w w') (hc : ∃ lo hi, PAt lo hi w' g c' ∧ (gm < lo ∨ hi ≤ gm) ∧ (gr < lo ∨ hi ≤ gr)) : Sk wb w0 gr g gm w' c' m := ⟨h.st.upd k hc, h.kp.then_ k.kept (fun _ e => .inl (.inl e))⟩
theorem Sk.below (h : Sk wb w0 gr g gm w c m) (hb : Below w.heap.size w w') : Sk wb w0 gr g gm w' c m := ⟨h.st.below hb, h.kp.below hb⟩
theorem Sk.good (h : Sk wb w0 gr g gm w c m) : c.good := h.st.good
theorem Sk.msg (h : Sk wb w0 gr g gm w c m) : goodM m := h.st.msg
theorem Sk.start (h : St w0 gr g gm w c m) : Sk w w0 gr g gm w c m := ⟨h, Kept.refl _ _⟩
theorem Sk.lt (h : Sk wb w0 gr g gm w c m) : g < w.heap.size ∧ gm < w.heap.size := by
  obtain ⟨lo, hi, hc, _⟩ := h.st.cur
  obtain ⟨cx, a1, _⟩ := h.st.cx
  exact ⟨hc.1.lt, blk_lt a1⟩
theorem Sk.cell (h : Sk wb w0 gr g gm w c m) {a : Addr} {v : Value} (hc : wb.cell? a = some v) (h1 : a.block ≠ g) (h2 : a.block ≠ gm) : w.cell? a = some v := cell_kept hc h.kp (fun e => e.elim h1 h2)
theorem Sk.byte (h : Sk wb w0 gr g gm w c m) : Calls Try.prog 41 #[.pointer (some ⟨g, 0, none⟩)] w fun en w' => en = .returned (.int .u8 c.byteV) ∧ Sk wb w0 gr g gm w' c.byteS m := by
  obtain ⟨lo, hi, hc, s1, s2⟩ := h.st.cur
  refine (p_byte hc).mono ?_
  rintro en w' ⟨rfl, b1, b2⟩
  exact ⟨rfl, h.upd b2 ⟨lo, hi, b1, s1, s2⟩⟩
theorem Sk.words (h : Sk wb w0 gr g gm w c m) (n : Int) : Calls Try.prog 43 #[.pointer (some ⟨g, 0, none⟩), .int .i64 n] w fun en w' => ∃ A' c', en = .returned (.slice A' (c.wordsV n).length c') ∧ (c.wordsV n).length ≤ c' ∧ (∀ W', Kept w' W' (fun k => k = g ∨ k = gm ∨ k = gr) → Kd.C (Kd.int .u16) W' A' (c.wordsV n).length (c.wordsV n)) ∧ Sk wb w0 gr g gm w' (c.wordsS n) m := by
  obtain ⟨cx, a1, a2⟩ := h.st.cx
  have lm := blk_lt a1
  have lr := blk_lt h.st.res
  obtain ⟨lo, hi, hc, s1, s2⟩ := h.st.cur
  refine (p_words hc n).mono ?_
  rintro en w' ⟨A', c', rfl, b1, b2, b3, b4⟩
  refine ⟨A', c', rfl, b1, fun W' hk => (b2.on (hk.mono fun j hj => ?_)).now, h.upd b4 ⟨lo, hi, b3, s1, s2⟩⟩
  have lg := hc.1.lt
  rcases hj with rfl | rfl | rfl <;> exact .inl (by omega)
theorem Sk.word (h : Sk wb w0 gr g gm w c m) : Calls Try.prog 37 #[.pointer (some ⟨g, 0, none⟩)] w fun en w' => en = .returned (.int .u16 c.wordV) ∧ Sk wb w0 gr g gm w' c.wordS m := by
  obtain ⟨lo, hi, hc, s1, s2⟩ := h.st.cur
  refine (p_word hc).mono ?_
  rintro en w' ⟨rfl, b1, b2⟩
  exact ⟨rfl, h.upd b2 ⟨lo, hi, b1, s1, s2⟩⟩
theorem Sk.need (h : Sk wb w0 gr g gm w c m) (ok : Bool) (f : Int) : Calls Try.prog 42 #[.pointer (some ⟨g, 0, none⟩), .bool ok, .int .i64 f] w fun en w' => en = .returned (.tuple #[]) ∧ Sk wb w0 gr g gm w' (c.need ok f) m := by
  obtain ⟨lo, hi, hc, s1, s2⟩ := h.st.cur
  refine (p_need hc ok f).mono ?_
  rintro en w' ⟨rfl, b1, b2⟩
  exact ⟨rfl, h.upd b2 ⟨lo, hi, b1, s1, s2⟩⟩
theorem Sk.putk (h : Sk wb w0 gr g gm w c m) (i : Nat) (v : Value) : Kept wb (w.setCell ⟨gm, i, none⟩ v) (fun k => k = g ∨ k = gm) := h.kp.setCell (p := ⟨gm, i, none⟩) (.inl (.inr rfl)) v
theorem Sk.put_addr (h : Sk wb w0 gr g gm w c m) {v : Int} (hv : 0 ≤ v ∧ v < 65536) : Sk wb w0 gr g gm (w.setCell ⟨gm, 2, none⟩ (.int .u16 v)) c { m with addr := v } := ⟨h.st.put_addr hv, h.putk _ _⟩
theorem Sk.put_count (h : Sk wb w0 gr g gm w c m) {v : Int} (hv : 0 ≤ v ∧ v < 65536) : Sk wb w0 gr g gm (w.setCell ⟨gm, 3, none⟩ (.int .u16 v)) c { m with count := v } := ⟨h.st.put_count hv, h.putk _ _⟩
theorem Sk.put_value (h : Sk wb w0 gr g gm w c m) {v : Int} (hv : 0 ≤ v ∧ v < 65536) : Sk wb w0 gr g gm (w.setCell ⟨gm, 4, none⟩ (.int .u16 v)) c { m with value := v } := ⟨h.st.put_value hv, h.putk _ _⟩
theorem Sk.put_and (h : Sk wb w0 gr g gm w c m) {v : Int} (hv : 0 ≤ v ∧ v < 65536) : Sk wb w0 gr g gm (w.setCell ⟨gm, 5, none⟩ (.int .u16 v)) c { m with and_ := v } := ⟨h.st.put_and hv, h.putk _ _⟩
theorem Sk.put_or (h : Sk wb w0 gr g gm w c m) {v : Int} (hv : 0 ≤ v ∧ v < 65536) : Sk wb w0 gr g gm (w.setCell ⟨gm, 6, none⟩ (.int .u16 v)) c { m with or_ := v } := ⟨h.st.put_or hv, h.putk _ _⟩
theorem Sk.put_addr2 (h : Sk wb w0 gr g gm w c m) {v : Int} (hv : 0 ≤ v ∧ v < 65536) : Sk wb w0 gr g gm (w.setCell ⟨gm, 7, none⟩ (.int .u16 v)) c { m with addr2 := v } := ⟨h.st.put_addr2 hv, h.putk _ _⟩
theorem Sk.put_words (h : Sk wb w0 gr g gm w c m) {A : Option Addr} {n : Nat} {l : List Int} (hn : l.length ≤ n) (hg : ∀ x ∈ l, 0 ≤ x ∧ x < 65536) (hr : ∀ W', Kept w W' (fun k => k = g ∨ k = gm ∨ k = gr) → Kd.C (Kd.int .u16) W' A l.length l) : Sk wb w0 gr g gm (w.setCell ⟨gm, 12, none⟩ (.slice A l.length n)) c { m with words := l } := ⟨h.st.put_words hn hg hr, h.putk _ _⟩
theorem Sk.at_addr (h : Sk wb w0 gr g gm w c m) : w.cell? ⟨gm, 2, none⟩ = some (.int .u16 m.addr) ∧ w.frozen? ⟨gm, 2, none⟩ = false := h.st.at_addr
theorem Sk.at_count (h : Sk wb w0 gr g gm w c m) : w.cell? ⟨gm, 3, none⟩ = some (.int .u16 m.count) ∧ w.frozen? ⟨gm, 3, none⟩ = false := h.st.at_count
theorem Sk.at_value (h : Sk wb w0 gr g gm w c m) : w.cell? ⟨gm, 4, none⟩ = some (.int .u16 m.value) ∧ w.frozen? ⟨gm, 4, none⟩ = false := h.st.at_value
theorem Sk.at_and (h : Sk wb w0 gr g gm w c m) : w.cell? ⟨gm, 5, none⟩ = some (.int .u16 m.and_) ∧ w.frozen? ⟨gm, 5, none⟩ = false := h.st.at_and
theorem Sk.at_or (h : Sk wb w0 gr g gm w c m) : w.cell? ⟨gm, 6, none⟩ = some (.int .u16 m.or_) ∧ w.frozen? ⟨gm, 6, none⟩ = false := h.st.at_or
theorem Sk.at_addr2 (h : Sk wb w0 gr g gm w c m) : w.cell? ⟨gm, 7, none⟩ = some (.int .u16 m.addr2) ∧ w.frozen? ⟨gm, 7, none⟩ = false := h.st.at_addr2
theorem Sk.at_words (h : Sk wb w0 gr g gm w c m) : ∃ A n, w.cell? ⟨gm, 12, none⟩ = some (.slice A m.words.length n) ∧ w.frozen? ⟨gm, 12, none⟩ = false := h.st.at_words
end
end Go.Proofs.Ytmglilncdffbkaa.PS
end
section
namespace Go.Proofs.Ytmglilncdffbkaa.Cu
open Go.RowKit Go.Proofs.Ytmglilncdffbkaa.E Go.Proofs.Ytmglilncdffbkaa.Cur Go.Proofs.YtmglilncdffbkaaW.PrintWords Go.Proofs.YtmglilncdffbkaaW.PrintLast Go.Proofs.YtmglilncdffbkaaW.PrintMore
def cu (l : List Int) : Cu := ⟨l, false, 0⟩
theorem need_true (c : Cu) (f : Int) : c.need true f = c := by unfold Cu.need; simp
theorem need_dead {c : Cu} (h : c.e ≠ 0) (ok : Bool) (f : Int) : c.need ok f = c := by
  unfold Cu.need
  rw [if_neg (fun hh => h hh.1)]
theorem bytesS_dead {c : Cu} (h : c.e ≠ 0) (n : Int) : (c.bytesS n).e = c.e := by
  unfold Cu.bytesS
  split
  · rfl
  · simp only [Cu.fail, fstE]
    rw [if_neg h]
theorem need_ok {c : Cu} {ok : Bool} {f : Int} (hf : f ≠ 0) (h : (c.need ok f).e = 0) : c.e = 0 ∧ ok = true ∧ c.need ok f = c := by
  cases ok with
  | true => rw [need_true] at h ⊢; exact ⟨h, rfl, rfl⟩
  | false =>
    by_cases he : c.e = 0
    · exfalso
      unfold Cu.need at h
      rw [if_pos ⟨he, rfl⟩] at h
      exact hf h
    · rw [need_dead he] at h
      exact absurd h he
theorem need_ok' {xs : List Int} {ok : Bool} {f : Int} (h : ((cu xs).need ok f).e = 0) : (cu xs).need ok f = cu xs := by
  cases ok with
  | true => exact need_true _ _
  | false =>
    unfold Cu.need cu at h ⊢
    simp only [and_self, if_true] at h ⊢
    rw [h]
theorem bytes_ok {c : Cu} {n : Int} (h : (c.bytesS n).e = 0) : c.e = 0 ∧ c.s = false ∧ 0 ≤ n ∧ n ≤ (c.xs.length : Int) ∧ c.bytesS n = cu (c.xs.drop n.toNat) ∧ c.bytesV n = c.xs.take n.toNat := by
  have he : c.e = 0 := by
    by_cases he : c.e = 0
    · exact he
    · rw [bytesS_dead he] at h; exact h
  by_cases hk : c.okB n = true
  · obtain ⟨h1, h2, h3⟩ := (Cu.okB_iff c n).1 hk
    refine ⟨he, h1, h2, h3, ?_, ?_⟩
    · unfold Cu.bytesS cu; rw [if_pos hk, h1, he]
    · unfold Cu.bytesV; rw [if_pos hk]
  · exfalso
    unfold Cu.bytesS at h
    rw [if_neg hk] at h
    simp only [Cu.fail, fstE] at h
    rw [if_pos he] at h
    exact absurd h (by decide)
theorem byte_ok {c : Cu} (h : c.byteS.e = 0) : c.e = 0 ∧ c.s = false ∧ ∃ t, c.xs = c.byteV :: t ∧ c.byteS = cu t := by
  obtain ⟨h1, h2, h3, h4, h5, h6⟩ := bytes_ok (n := 1) h
  cases hx : c.xs with
  | nil => rw [hx] at h4; simp at h4
  | cons x t =>
    refine ⟨h1, h2, t, ?_, ?_⟩
    · unfold Cu.byteV; rw [h6, hx]; rfl
    · show c.bytesS 1 = _
      rw [h5, hx]; rfl
theorem fin_ok {c : Cu} (h : c.fin.e = 0) : c.e = 0 ∧ c.xs = [] := by
  obtain ⟨h1, h2, h3⟩ := need_ok (by decide) h
  exact ⟨h1, by simpa using h2⟩
theorem okB_cu (l : List Int) (n : Nat) (h : n ≤ l.length) : (cu l).okB (n : Int) = true := by
  rw [Cu.okB_iff]
  exact ⟨rfl, by omega, by show (n : Int) ≤ (l.length : Int); omega⟩
theorem bytesV_app (u t : List Int) {n : Int} (hn : n = (u.length : Int)) : (cu (u ++ t)).bytesV n = u := by
  subst hn
  unfold Cu.bytesV
  rw [if_pos (okB_cu _ _ (by simp))]
  show (u ++ t).take (u.length : Int).toNat = u
  simp
theorem bytesS_app (u t : List Int) {n : Int} (hn : n = (u.length : Int)) : (cu (u ++ t)).bytesS n = cu t := by
  subst hn
  unfold Cu.bytesS
  rw [if_pos (okB_cu _ _ (by simp))]
  show (⟨(u ++ t).drop (u.length : Int).toNat, _, _⟩ : Cu) = _
  simp [cu]
theorem bytesS_cut {l : List Int} {n : Int} (h : (l.length : Int) < n ∨ n < 0) : ((cu l).bytesS n).e = 2 := by
  unfold Cu.bytesS
  have hk : ¬ (cu l).okB n = true := fun hk => by
    obtain ⟨_, h2, h3⟩ := (Cu.okB_iff _ _).1 hk
    have h3 : n ≤ (l.length : Int) := h3
    omega
  rw [if_neg hk]
  rfl
theorem byteV_cons (x : Int) (t : List Int) : (cu (x :: t)).byteV = x := by
  show ((cu ([x] ++ t)).bytesV 1).headD 0 = x
  have h := bytesV_app [x] t (n := 1) rfl
  rw [h]
  rfl
theorem byteS_cons (x : Int) (t : List Int) : (cu (x :: t)).byteS = cu t := bytesS_app [x] t rfl
section
variable {α β : Type}
def Rd.ret (a : α) : (Cu → Cu × α) := fun c => (c, a)
def Rd.bind (r : (Cu → Cu × α)) (f : α → (Cu → Cu × β)) : (Cu → Cu × β) := fun c => f (r c).2 (r c).1
def Rd.byte : (Cu → Cu × Int) := fun c => (c.byteS, c.byteV)
def Rd.need (ok : Bool) (f : Int) : (Cu → Cu × Unit) := fun c => (c.need ok f, ())
structure Cl (r : (Cu → Cu × α)) : Prop where
  dead : ∀ c : Cu, c.e ≠ 0 → (r c).1.e = c.e
  ok : ∀ xs : List Int, (r (cu xs)).1.e = 0 → ∃ u t, xs = u ++ t ∧ (∀ t', r (cu (u ++ t')) = (cu t', (r (cu xs)).2)) ∧ ∀ k, k < u.length → (r (cu (u.take k))).1.e = 2
theorem Cl.ret (a : α) : Cl (Rd.ret a) := ⟨fun _ _ => rfl, fun xs _ => ⟨[], xs, rfl, fun _ => rfl, fun k hk => absurd hk (Nat.not_lt_zero k)⟩⟩
theorem Cl.need (ok : Bool) (f : Int) : Cl (Rd.need ok f) := by
  refine ⟨fun c h => by show (c.need ok f).e = c.e; rw [need_dead h], fun xs h => ⟨[], xs, rfl, fun t => ?_, fun k hk => absurd hk (Nat.not_lt_zero k)⟩⟩
  have e := need_ok' (xs := xs) h
  show ((cu t).need ok f, ()) = _
  cases ok with
  | true => rw [need_true]
  | false =>
    have hf : f = 0 := by
      have h : ((cu xs).need false f).e = 0 := h
      unfold Cu.need cu at h
      simpa using h
    subst hf
    first | rfl | done
theorem Cl.byte : Cl Rd.byte := by
  refine ⟨fun c h => bytesS_dead h 1, fun xs h => ?_⟩
  obtain ⟨h1, h2, t, h3, h4⟩ := byte_ok (c := cu xs) h
  have h3 : xs = (cu xs).byteV :: t := h3
  refine ⟨[(cu xs).byteV], t, h3, fun t' => ?_, fun k hk => ?_⟩
  · show ((cu ((cu xs).byteV :: t')).byteS, (cu ((cu xs).byteV :: t')).byteV) = (cu t', (cu xs).byteV)
    rw [byteS_cons, byteV_cons]
  · have : k = 0 := by simpa using hk
    subst this
    exact bytesS_cut (n := 1) (.inl (by simp))
end
def Dd {α : Type} (r : (Cu → Cu × α)) : Prop := ∀ c : Cu, c.e ≠ 0 → (r c).1.e = c.e
section
variable {α β : Type} {f : α → (Cu → Cu × β)}
theorem Dd.bind {r : (Cu → Cu × α)} (hr : Dd r) (hf : ∀ a, Dd (f a)) : Dd (Rd.bind r f) := fun c h => by
  have h1 := hr c h
  show (f (r c).2 (r c).1).1.e = c.e
  rw [hf _ _ (by rw [h1]; exact h), h1]
theorem byte_inv {f : Int → (Cu → Cu × β)} {l : List Int} (hf : ∀ a, Dd (f a)) (h : (Rd.bind Rd.byte f (cu l)).1.e = 0) : ∃ x t, l = x :: t ∧ Rd.bind Rd.byte f (cu l) = f x (cu t) := by
  have h : (f (cu l).byteV (cu l).byteS).1.e = 0 := h
  have h1 : (cu l).byteS.e = 0 := by
    by_cases h1 : (cu l).byteS.e = 0
    · exact h1
    · rw [hf _ _ h1] at h; exact h
  obtain ⟨_, _, t, h2, h3⟩ := byte_ok h1
  refine ⟨_, t, h2, ?_⟩
  show f (cu l).byteV (cu l).byteS = _
  rw [h3]
theorem need_inv {f : Unit → (Cu → Cu × β)} {l : List Int} {ok : Bool} {e : Int} (he : e ≠ 0) (hf : ∀ a, Dd (f a)) (h : (Rd.bind (Rd.need ok e) f (cu l)).1.e = 0) : ok = true ∧ Rd.bind (Rd.need ok e) f (cu l) = f () (cu l) := by
  have h : (f () ((cu l).need ok e)).1.e = 0 := h
  have h1 : ((cu l).need ok e).e = 0 := by
    by_cases h1 : ((cu l).need ok e).e = 0
    · exact h1
    · rw [hf _ _ h1] at h; exact h
  obtain ⟨_, h2, h3⟩ := need_ok he h1
  refine ⟨h2, ?_⟩
  show f () ((cu l).need ok e) = _
  rw [h3]
theorem need_run (f : Unit → (Cu → Cu × β)) {ok : Bool} (h : ok = true) (e : Int) (c : Cu) : Rd.bind (Rd.need ok e) f c = f () c := by
  show f () (c.need ok e) = _
  rw [h, need_true]
theorem Dd.byte : Dd Rd.byte := Cl.byte.dead
theorem Dd.need (ok : Bool) (e : Int) : Dd (Rd.need ok e) := (Cl.need ok e).dead
theorem Dd.ret (a : α) : Dd (Rd.ret a) := (Cl.ret a).dead
end
def Rd.words (n : Int) : (Cu → Cu × (List Int)) := fun c => (c.wordsS n, c.wordsV n)
theorem wordsS_dead {c : Cu} (h : c.e ≠ 0) (n : Int) : (c.wordsS n).e = c.e := by
  unfold Cu.wordsS
  split
  · rfl
  · simp only [Cu.fail, fstE]
    rw [if_neg h]
theorem words_ok {c : Cu} {n : Int} (h : (c.wordsS n).e = 0) : c.e = 0 ∧ c.s = false ∧ 0 ≤ n ∧ 2 * n ≤ (c.xs.length : Int) ∧ c.wordsS n = cu (c.xs.drop (2 * n.toNat)) ∧ c.wordsV n = Take.words (c.xs.take (2 * n.toNat)) := by
  have he : c.e = 0 := by
    by_cases he : c.e = 0
    · exact he
    · rw [wordsS_dead he] at h; exact h
  by_cases hk : c.okW n = true
  · obtain ⟨h1, h2, h3⟩ := (Cu.okW_iff c n).1 hk
    refine ⟨he, h1, h2, h3, ?_, ?_⟩
    · unfold Cu.wordsS cu; rw [if_pos hk, h1, he]
    · unfold Cu.wordsV; rw [if_pos hk]
  · exfalso
    unfold Cu.wordsS at h
    rw [if_neg hk] at h
    simp only [Cu.fail, fstE] at h
    rw [if_pos he] at h
    exact absurd h (by decide)
theorem okW_cu (l : List Int) (n : Nat) (h : 2 * n ≤ l.length) : (cu l).okW (n : Int) = true := by
  rw [Cu.okW_iff]
  exact ⟨rfl, by omega, by show 2 * (n : Int) ≤ (l.length : Int); omega⟩
theorem wordsV_app (u t : List Int) {n : Int} (hn : 2 * n = (u.length : Int)) : (cu (u ++ t)).wordsV n = Take.words u := by
  obtain ⟨m, rfl⟩ := Int.eq_ofNat_of_zero_le (show 0 ≤ n by omega)
  unfold Cu.wordsV
  rw [if_pos (okW_cu _ _ (by rw [List.length_append]; omega))]
  show Take.words ((u ++ t).take (2 * (m : Int).toNat)) = _
  rw [show 2 * (m : Int).toNat = u.length by omega]
  simp
theorem wordsS_app (u t : List Int) {n : Int} (hn : 2 * n = (u.length : Int)) : (cu (u ++ t)).wordsS n = cu t := by
  obtain ⟨m, rfl⟩ := Int.eq_ofNat_of_zero_le (show 0 ≤ n by omega)
  unfold Cu.wordsS
  rw [if_pos (okW_cu _ _ (by rw [List.length_append]; omega))]
  show (⟨(u ++ t).drop (2 * (m : Int).toNat), _, _⟩ : Cu) = _
  rw [show 2 * (m : Int).toNat = u.length by omega]
  simp [cu]
theorem wordsS_cut {l : List Int} {n : Int} (h : (l.length : Int) < 2 * n ∨ n < 0) : ((cu l).wordsS n).e = 2 := by
  unfold Cu.wordsS
  have hk : ¬ (cu l).okW n = true := fun hk => by
    obtain ⟨_, h2, h3⟩ := (Cu.okW_iff _ _).1 hk
    have h3 : 2 * n ≤ (l.length : Int) := h3
    omega
  rw [if_neg hk]
  rfl
theorem Cl.words (n : Int) : Cl (Rd.words n) := by
  refine ⟨fun c h => wordsS_dead h n, fun xs h => ?_⟩
  obtain ⟨h1, h2, h3, h4, h5, h6⟩ := words_ok (c := cu xs) h
  have h4 : 2 * n ≤ (xs.length : Int) := h4
  have hl : 2 * n = ((xs.take (2 * n.toNat)).length : Int) := by rw [List.length_take]; omega
  refine ⟨xs.take (2 * n.toNat), xs.drop (2 * n.toNat), (List.take_append_drop _ _).symm, fun t => ?_, fun k hk => ?_⟩
  · show ((cu (xs.take (2 * n.toNat) ++ t)).wordsS n, (cu (xs.take (2 * n.toNat) ++ t)).wordsV n) = (cu t, (cu xs).wordsV n)
    rw [wordsS_app _ _ hl, wordsV_app _ _ hl, h6]
    rfl
  · refine wordsS_cut (.inl ?_)
    rw [List.length_take]
    omega
theorem words_inv {β : Type} {f : List Int → (Cu → Cu × β)} {l : List Int} {n : Int} (hf : ∀ a, Dd (f a)) (h : (Rd.bind (Rd.words n) f (cu l)).1.e = 0) : 0 ≤ n ∧ 2 * n ≤ (l.length : Int) ∧ Rd.bind (Rd.words n) f (cu l) = f (Take.words (l.take (2 * n.toNat))) (cu (l.drop (2 * n.toNat))) := by
  have h : (f ((cu l).wordsV n) ((cu l).wordsS n)).1.e = 0 := h
  have h1 : ((cu l).wordsS n).e = 0 := by
    by_cases h1 : ((cu l).wordsS n).e = 0
    · exact h1
    · rw [hf _ _ h1] at h; exact h
  obtain ⟨_, _, h2, h3, h4, h5⟩ := words_ok h1
  refine ⟨h2, h3, ?_⟩
  show f ((cu l).wordsV n) ((cu l).wordsS n) = _
  rw [h4, h5]
  rfl
theorem words_run {β : Type} (f : List Int → (Cu → Cu × β)) (u t : List Int) {n : Int} (hn : 2 * n = (u.length : Int)) : Rd.bind (Rd.words n) f (cu (u ++ t)) = f (Take.words u) (cu t) := by
  show f ((cu (u ++ t)).wordsV n) ((cu (u ++ t)).wordsS n) = _
  rw [wordsV_app _ _ hn, wordsS_app _ _ hn]
theorem Dd.words (n : Int) : Dd (Rd.words n) := (Cl.words n).dead
def Rd.word : (Cu → Cu × Int) := fun c => (c.wordS, c.wordV)
theorem two_words (a b : Int) : (Take.words [a, b]).headD 0 = a * 256 + b := by
  simp [Take.words, Take.pre, Take.wordAt, List.range_succ]
theorem wordV_cons (a b : Int) (t : List Int) : (cu (a :: b :: t)).wordV = a * 256 + b := by
  show ((cu ([a, b] ++ t)).wordsV 1).headD 0 = _
  rw [wordsV_app [a, b] t (n := 1) (by simp)]
  exact two_words a b
theorem wordS_cons (a b : Int) (t : List Int) : (cu (a :: b :: t)).wordS = cu t := wordsS_app [a, b] t (n := 1) (by simp)
theorem word_ok {c : Cu} (h : c.wordS.e = 0) : c.e = 0 ∧ c.s = false ∧ ∃ a b t, c.xs = a :: b :: t ∧ c.wordS = cu t ∧ c.wordV = a * 256 + b := by
  obtain ⟨h1, h2, h3, h4, h5, h6⟩ := words_ok (n := 1) h
  cases hx : c.xs with
  | nil => rw [hx] at h4; simp at h4
  | cons a t =>
  cases ht : t with
  | nil => rw [hx, ht] at h4; simp at h4
  | cons b r =>
    refine ⟨h1, h2, a, b, r, rfl, ?_, ?_⟩
    · show c.wordsS 1 = _
      rw [h5, hx, ht]; rfl
    · show (c.wordsV 1).headD 0 = _
      rw [h6, hx, ht]; exact two_words a b
theorem Cl.word : Cl Rd.word := by
  refine ⟨fun c h => wordsS_dead h 1, fun xs h => ?_⟩
  obtain ⟨h1, h2, a, b, t, h3, h4, h5⟩ := word_ok (c := cu xs) h
  have h3 : xs = a :: b :: t := h3
  refine ⟨[a, b], t, h3, fun t' => ?_, fun k hk => ?_⟩
  · show ((cu (a :: b :: t')).wordS, (cu (a :: b :: t')).wordV) = (cu t', (cu xs).wordV)
    rw [wordS_cons, wordV_cons, h5]
  · refine wordsS_cut (n := 1) (.inl ?_)
    rw [List.length_take]
    simp only [List.length_cons, List.length_nil] at hk ⊢
    omega
theorem Dd.word : Dd Rd.word := Cl.word.dead
theorem word_inv {β : Type} {f : Int → (Cu → Cu × β)} {l : List Int} (hf : ∀ a, Dd (f a)) (h : (Rd.bind Rd.word f (cu l)).1.e = 0) : ∃ a b t, l = a :: b :: t ∧ Rd.bind Rd.word f (cu l) = f (a * 256 + b) (cu t) := by
  have h : (f (cu l).wordV (cu l).wordS).1.e = 0 := h
  have h1 : (cu l).wordS.e = 0 := by
    by_cases h1 : (cu l).wordS.e = 0
    · exact h1
    · rw [hf _ _ h1] at h; exact h
  obtain ⟨_, _, a, b, t, h2, h3, h4⟩ := word_ok h1
  refine ⟨a, b, t, h2, ?_⟩
  show f (cu l).wordV (cu l).wordS = _
  rw [h3, h4]
theorem word_run {β : Type} (f : Int → (Cu → Cu × β)) {v : Int} (hv : 0 ≤ v ∧ v < 65536) (t : List Int) : Rd.bind Rd.word f (cu ((v / 256) % 256 :: v % 256 :: t)) = f v (cu t) := by
  show f (cu ((v / 256) % 256 :: v % 256 :: t)).wordV (cu ((v / 256) % 256 :: v % 256 :: t)).wordS = _
  rw [wordV_cons, wordS_cons, show v / 256 % 256 * 256 + v % 256 = v by omega]
end Go.Proofs.Ytmglilncdffbkaa.Cu
end
section
namespace Go.Proofs.Ytmglilncdffbkaa.P
open Go.RowKit Go.Proofs.YtmglilncdffbkaaW.PrintWords Go.Proofs.YtmglilncdffbkaaW.PrintLast Go.Proofs.YtmglilncdffbkaaW.PrintMore
attribute [local go_sem] max2_int min2_int max_two min_two max_three min_three max_four min_four   -- for this text's walks alone
def word_Within.f (a0 : Int) (a1 : Int) : Option (Bool) := if a1 > 0 then (some (decide (a1 ≤ (wrap64 (65536 - (wrap64 (a0))))))) else (some false)
theorem word_Within.calls (a0 : Int) (a1 : Int) (r : Bool) (w : World) (h : word_Within.f a0 a1 = some r) :
    Calls Try.prog 64 #[.int .u16 a0, .int .i64 a1] w fun e w' => e = .returned (.bool r) ∧ Drawn0 w w' := by
  have H : (if a1 > 0 then (some (decide (a1 ≤ (wrap64 (65536 - (wrap64 (a0))))))) else (some false)) = some r := h
  clear h
  by_cases c3 : a1 > 0
  · rw [if_pos c3] at H
    have c3b0 : decide (0 < a1) = true := decide_eq_true c3
    clear c3
    obtain rfl := Option.some.inj H
    go_enter Try.func64, Try.ntmps64
    go_wp2
    go_ret
    exact ⟨by first | rfl | (simp; done) | (simp [*]; done), by repeat (first | exact Drawn0.refl _ | apply Drawn0.step)⟩
  · rw [if_neg c3] at H
    have c3b0 : decide (0 < a1) = false := decide_eq_false c3
    clear c3
    obtain rfl := Option.some.inj H
    go_enter Try.func64, Try.ntmps64
    go_wp2
    go_ret
    exact ⟨by first | rfl | (simp; done) | (simp [*]; done), by repeat (first | exact Drawn0.refl _ | apply Drawn0.step)⟩
end Go.Proofs.Ytmglilncdffbkaa.P
end
section
namespace Go.Proofs.Ytmglilncdffbkaa.P
open Go.RowKit Go.Proofs.YtmglilncdffbkaaW.PrintWords Go.Proofs.YtmglilncdffbkaaW.PrintLast Go.Proofs.YtmglilncdffbkaaW.PrintMore
attribute [local go_sem] max2_int min2_int max_two min_two max_three min_three max_four min_four   -- for this text's walks alone
def busbarref04_Within.f (a0 : Int) (a1 : Int) : Option (Bool) := if a1 < 1 then (some false) else (if a1 > 65536 then (some false) else (some (decide ((wrap64 ((wrap64 (a0)) + a1)) ≤ 65536))))
theorem busbarref04_Within.calls (a0 : Int) (a1 : Int) (r : Bool) (w : World) (h : busbarref04_Within.f a0 a1 = some r) :
    Calls Try.prog 53 #[.int .u16 a0, .int .i64 a1] w fun e w' => e = .returned (.bool r) ∧ Drawn0 w w' := by
  have H : (if a1 < 1 then (some false) else (if a1 > 65536 then (some false) else (some (decide ((wrap64 ((wrap64 (a0)) + a1)) ≤ 65536))))) = some r := h
  clear h
  by_cases c3 : a1 < 1
  · rw [if_pos c3] at H
    have c3b0 : decide (a1 < 1) = true := decide_eq_true c3
    clear c3
    obtain rfl := Option.some.inj H
    go_enter Try.func53, Try.ntmps53
    go_wp2
    go_ret
    exact ⟨by first | rfl | (simp; done) | (simp [*]; done), by repeat (first | exact Drawn0.refl _ | apply Drawn0.step)⟩
  · rw [if_neg c3] at H
    have c3b0 : decide (a1 < 1) = false := decide_eq_false c3
    clear c3
    by_cases c4 : a1 > 65536
    · rw [if_pos c4] at H
      have c4b0 : decide (65536 < a1) = true := decide_eq_true c4
      clear c4
      obtain rfl := Option.some.inj H
      go_enter Try.func53, Try.ntmps53
      go_wp2
      go_ret
      exact ⟨by first | rfl | (simp; done) | (simp [*]; done), by repeat (first | exact Drawn0.refl _ | apply Drawn0.step)⟩
    · rw [if_neg c4] at H
      have c4b0 : decide (65536 < a1) = false := decide_eq_false c4
      clear c4
      obtain rfl := Option.some.inj H
      go_enter Try.func53, Try.ntmps53
      go_wp2
      go_ret
      exact ⟨by first | rfl | (simp; done) | (simp [*]; done), by repeat (first | exact Drawn0.refl _ | apply Drawn0.step)⟩
end Go.Proofs.Ytmglilncdffbkaa.P
end
section
namespace Go.Proofs.Ytmglilncdffbkaa.Reg
open Go.RowKit Go.Proofs.Ytmglilncdffbkaa.P Go.Proofs.Ytmglilncdffbkaa.E Go.Proofs.Ytmglilncdffbkaa.Cur Go.Proofs.Ytmglilncdffbkaa.Cu Go.Proofs.Ytmglilncdffbkaa.Same Go.Proofs.YtmglilncdffbkaaW.PrintWords Go.Proofs.YtmglilncdffbkaaW.PrintLast Go.Proofs.YtmglilncdffbkaaW.PrintMore
def withinB (a k : Int) : Bool := decide (0 < k) && decide (k ≤ 65536 - a)
def spanR (most a : Int) : (Cu → Cu × Int) := Rd.bind Rd.word fun n => Rd.bind (Rd.need (decide (1 ≤ n) && decide (n ≤ most)) 5) fun _ => Rd.bind (Rd.need (withinB a n) 7) fun _ => Rd.ret n
def countR (n : Int) : (Cu → Cu × (List Int)) := Rd.bind Rd.byte fun b => Rd.bind (Rd.need (b == 2 * n) 5) fun _ => Rd.words n
def whereR (most : Int) (m : Msg) : (Cu → Cu × Msg) := Rd.bind Rd.word fun a => Rd.bind (spanR most a) fun n => Rd.ret { m with addr := a, count := n }
def toldR (m : Msg) : (Cu → Cu × Msg) := Rd.bind Rd.byte fun n => Rd.bind (Rd.need (n % 2 == 0 && (decide (2 ≤ n) && decide (n ≤ 250))) 5) fun _ => Rd.bind (Rd.words (n / 2)) fun l => Rd.ret { m with words := l }
def oneR (m : Msg) : (Cu → Cu × Msg) := Rd.bind Rd.word fun a => Rd.bind Rd.word fun v => Rd.ret { m with addr := a, value := v }
def manyK (m1 : Msg) : (Cu → Cu × Msg) := Rd.bind (countR m1.count) fun l => Rd.ret { m1 with words := l }
def manyR (m : Msg) : (Cu → Cu × Msg) := Rd.bind (whereR 123 m) manyK
def maskR (m : Msg) : (Cu → Cu × Msg) := Rd.bind Rd.word fun a => Rd.bind Rd.word fun x => Rd.bind Rd.word fun y => Rd.ret { m with addr := a, and_ := x, or_ := y }
def bothK (m1 : Msg) : (Cu → Cu × Msg) := Rd.bind Rd.word fun a => Rd.bind (spanR 121 a) fun n => Rd.bind (countR n) fun l => Rd.ret { m1 with addr2 := a, words := l }
def bothR (m : Msg) : (Cu → Cu × Msg) := Rd.bind (whereR 125 m) bothK
def placeR (m : Msg) : (Cu → Cu × Msg) := Rd.bind Rd.word fun a => Rd.ret { m with addr := a }
def queueR (m : Msg) : (Cu → Cu × Msg) := Rd.bind Rd.word fun n => Rd.bind (Rd.need (n % 2 == 0 && (decide (2 ≤ n) && decide (n ≤ 64))) 5) fun _ => Rd.bind Rd.word fun k => Rd.bind (Rd.need (2 + 2 * k == n) 5) fun _ => Rd.bind (Rd.words k) fun l => Rd.ret { m with words := l }
def isCode (code : Int) : Prop := code = 3 ∨ code = 4 ∨ code = 6 ∨ code = 16 ∨ code = 22 ∨ code = 23 ∨ code = 24
instance (code : Int) : Decidable (isCode code) := by unfold isCode; infer_instance
def bodyR (dir : Int) (m : Msg) : (Cu → Cu × Msg) :=
  if m.code = 3 ∨ m.code = 4 then (if dir = 0 then whereR 125 m else toldR m) else if m.code = 6 then oneR m else if m.code = 16 then (if dir = 0 then manyR m else whereR 123 m) else if m.code = 22 then maskR m else
  if m.code = 23 then (if dir = 0 then bothR m else toldR m) else if dir = 0 then placeR m else queueR m
def parse (dir code : Int) (bs : List Int) : Msg × Int :=
  if dir ≠ 0 ∧ dir ≠ 1 then (zeroM, 1) else if ¬ isCode code then (zeroM, 4) else
  if (bodyR dir { zeroM with code := code } (cu bs)).1.fin.e ≠ 0 then (zeroM, (bodyR dir { zeroM with code := code } (cu bs)).1.fin.e) else ((bodyR dir { zeroM with code := code } (cu bs)).2, 0)
theorem within_c {a k : Int} (ha : 0 ≤ a ∧ a < 65536) (w : World) : Calls Try.prog 64 #[.int .u16 a, .int .i64 k] w fun en w' => en = .returned (.bool (withinB a k)) ∧ Below w.heap.size w w' := by
  have e : word_Within.f a k = some (withinB a k) := by
    unfold word_Within.f withinB
    rw [wrap64_id (x := a) (by omega) (by omega), wrap64_id (by omega) (by omega)]
    by_cases h : k > 0
    · rw [if_pos h, decide_eq_true (show (0 : Int) < k from h), Bool.true_and]
    · rw [if_neg h, decide_eq_false (show ¬ (0 : Int) < k from h), Bool.false_and]
  refine (word_Within.calls _ _ _ w e).mono ?_
  rintro e w' ⟨rfl, n, rfl⟩
  exact ⟨rfl, pw_below_drewN (Below.refl _ _) _⟩
theorem rwithin_c {a k : Int} (ha : 0 ≤ a ∧ a < 65536) (w : World) : Calls Try.prog 53 #[.int .u16 a, .int .i64 k] w fun en w' => en = .returned (.bool (withinB a k)) ∧ Below w.heap.size w w' := by
  have e : busbarref04_Within.f a k = some (withinB a k) := by
    unfold busbarref04_Within.f withinB
    by_cases h : k < 1
    · rw [if_pos h, decide_eq_false (show ¬ (0 : Int) < k by omega), Bool.false_and]
    rw [if_neg h, decide_eq_true (show (0 : Int) < k by omega), Bool.true_and]
    by_cases h2 : k > 65536
    · rw [if_pos h2, decide_eq_false (by omega)]
    rw [if_neg h2, wrap64_id (x := a) (by omega) (by omega), wrap64_id (by omega) (by omega)]
    congr 1
    rw [Bool.eq_iff_iff, decide_eq_true_eq, decide_eq_true_eq]
    omega
  refine (busbarref04_Within.calls _ _ _ w e).mono ?_
  rintro e w' ⟨rfl, n, rfl⟩
  exact ⟨rfl, pw_below_drewN (Below.refl _ _) _⟩
theorem span_1 {wb w0 w : World} {gr g gm : Nat} {c0 : Cu} {m : Msg} (h : PS.Sk wb w0 gr g gm w c0 m) {a most : Int} (ha : 0 ≤ a ∧ a < 65536) (hg : 1 ≤ c0.wordV) :
    Calls Try.prog 38 #[.pointer (some ⟨g, 0, none⟩), .int .u16 a, .int .i64 most] w fun en w' => en = .returned (.int .i64 (spanR most a c0).2) ∧ PS.Sk wb w0 gr g gm w' (spanR most a c0).1 m := by
  have HP := Aside0.mk h
  have HG := Aside0.mk hg
  clear h hg
  go_enter Try.func38, Try.ntmps38
  go_upto_region 2 with (first | (go_at_call 37; obtain ⟨l0, h0⟩ := Cu.wordV_bd (PS.Sk.good HP.out); (with_reducible refine (PS.Sk.word HP.out).mono ?_); rintro en x1 ⟨rfl, hp_⟩; obtain ⟨c1, ec_⟩ : ∃ z, z = c0.wordS := ⟨_, rfl⟩; rw [← ec_] at hp_; have Ec1 := Aside0.mk ec_; clear ec_; have n0_ := Aside0.mk hp_; clear HP hp_; have HP := n0_; clear n0_))
  have wk := wrap64_id (x := c0.wordV) (by omega) (by omega)
  have wkb : IntKind.i64.wrap (c0.wordV) = c0.wordV := by rw [i64_w]; exact wk
  have hge : decide (1 ≤ c0.wordV) = true := decide_eq_true (by have := HG.out; omega)
  have hge2 : decide (c0.wordV ≥ 1) = true := hge
  have EB := Aside0.mk (show (decide (1 ≤ c0.wordV) && decide (c0.wordV ≤ most)) = (decide (c0.wordV ≤ most)) from by rw [hge]; rfl)
  go_upto_region 3 with (first | (go_at_call 42; (with_reducible refine (PS.Sk.need HP.out (decide (c0.wordV ≤ most)) 5).mono ?_); rintro en x2 ⟨rfl, hp_⟩; rw [← EB.out] at hp_; obtain ⟨c2, ec_⟩ : ∃ z, z = c1.need (decide (1 ≤ c0.wordV) && decide (c0.wordV ≤ most)) 5 := ⟨_, rfl⟩; rw [← ec_] at hp_; have Ec2 := Aside0.mk ec_; clear ec_; have n0_ := Aside0.mk hp_; clear HP hp_; have HP := n0_; clear n0_))
  clear hge hge2
  go_wp2_with (first | (go_at_call 64; (with_reducible refine (within_c ha _).mono ?_); rintro en x90 ⟨rfl, hb_⟩; have n0_ := Aside0.mk (PS.Sk.below HP.out hb_); clear HP hb_; have HP := n0_; clear n0_) | (go_at_call 42; (with_reducible refine (PS.Sk.need HP.out (withinB a c0.wordV) 7).mono ?_); rintro en x3 ⟨rfl, hp_⟩; obtain ⟨c3, ec_⟩ : ∃ z, z = c2.need (withinB a c0.wordV) 7 := ⟨_, rfl⟩; rw [← ec_] at hp_; have Ec3 := Aside0.mk ec_; clear ec_; have n0_ := Aside0.mk hp_; clear HP hp_; have HP := n0_; clear n0_))
  go_ret
  have eq_ : spanR most a c0 = (c3, c0.wordV) := by
    rw [Ec3.out, Ec2.out, Ec1.out]
    rfl
  rw [eq_]
  exact ⟨rfl, HP.out⟩
theorem span_0 {wb w0 w : World} {gr g gm : Nat} {c0 : Cu} {m : Msg} (h : PS.Sk wb w0 gr g gm w c0 m) {a most : Int} (ha : 0 ≤ a ∧ a < 65536) (hg : ¬ 1 ≤ c0.wordV) :
    Calls Try.prog 38 #[.pointer (some ⟨g, 0, none⟩), .int .u16 a, .int .i64 most] w fun en w' => en = .returned (.int .i64 (spanR most a c0).2) ∧ PS.Sk wb w0 gr g gm w' (spanR most a c0).1 m := by
  have HP := Aside0.mk h
  have HG := Aside0.mk hg
  clear h hg
  go_enter Try.func38, Try.ntmps38
  go_upto_region 2 with (first | (go_at_call 37; obtain ⟨l0, h0⟩ := Cu.wordV_bd (PS.Sk.good HP.out); (with_reducible refine (PS.Sk.word HP.out).mono ?_); rintro en x1 ⟨rfl, hp_⟩; obtain ⟨c1, ec_⟩ : ∃ z, z = c0.wordS := ⟨_, rfl⟩; rw [← ec_] at hp_; have Ec1 := Aside0.mk ec_; clear ec_; have n0_ := Aside0.mk hp_; clear HP hp_; have HP := n0_; clear n0_))
  have wk := wrap64_id (x := c0.wordV) (by omega) (by omega)
  have wkb : IntKind.i64.wrap (c0.wordV) = c0.wordV := by rw [i64_w]; exact wk
  have hge : decide (1 ≤ c0.wordV) = false := decide_eq_false (by have := HG.out; omega)
  have hge2 : decide (c0.wordV ≥ 1) = false := hge
  have EB := Aside0.mk (show (decide (1 ≤ c0.wordV) && decide (c0.wordV ≤ most)) = (false) from by rw [hge]; rfl)
  go_upto_region 3 with (first | (go_at_call 42; (with_reducible refine (PS.Sk.need HP.out (false) 5).mono ?_); rintro en x2 ⟨rfl, hp_⟩; rw [← EB.out] at hp_; obtain ⟨c2, ec_⟩ : ∃ z, z = c1.need (decide (1 ≤ c0.wordV) && decide (c0.wordV ≤ most)) 5 := ⟨_, rfl⟩; rw [← ec_] at hp_; have Ec2 := Aside0.mk ec_; clear ec_; have n0_ := Aside0.mk hp_; clear HP hp_; have HP := n0_; clear n0_))
  clear hge hge2
  go_wp2_with (first | (go_at_call 64; (with_reducible refine (within_c ha _).mono ?_); rintro en x90 ⟨rfl, hb_⟩; have n0_ := Aside0.mk (PS.Sk.below HP.out hb_); clear HP hb_; have HP := n0_; clear n0_) | (go_at_call 42; (with_reducible refine (PS.Sk.need HP.out (withinB a c0.wordV) 7).mono ?_); rintro en x3 ⟨rfl, hp_⟩; obtain ⟨c3, ec_⟩ : ∃ z, z = c2.need (withinB a c0.wordV) 7 := ⟨_, rfl⟩; rw [← ec_] at hp_; have Ec3 := Aside0.mk ec_; clear ec_; have n0_ := Aside0.mk hp_; clear HP hp_; have HP := n0_; clear n0_))
  go_ret
  have eq_ : spanR most a c0 = (c3, c0.wordV) := by
    rw [Ec3.out, Ec2.out, Ec1.out]
    rfl
  rw [eq_]
  exact ⟨rfl, HP.out⟩
theorem span_any {wb w0 w : World} {gr g gm : Nat} {c0 : Cu} {m : Msg} (h : PS.Sk wb w0 gr g gm w c0 m) {a : Int} (ha : 0 ≤ a ∧ a < 65536) (most : Int) : Calls Try.prog 38 #[.pointer (some ⟨g, 0, none⟩), .int .u16 a, .int .i64 most] w fun en w' => en = .returned (.int .i64 (spanR most a c0).2) ∧ PS.Sk wb w0 gr g gm w' (spanR most a c0).1 m := by
  by_cases hg : 1 ≤ c0.wordV
  · exact span_1 h ha hg
  · exact span_0 h ha hg
theorem spanR_bd {c : Cu} (h : c.good) (most a : Int) : 0 ≤ (spanR most a c).2 ∧ (spanR most a c).2 < 65536 := Cu.wordV_bd h
theorem counted_any {wb w0 w : World} {gr g gm : Nat} {c0 : Cu} {m : Msg} (h : PS.Sk wb w0 gr g gm w c0 m) {n : Int} (hn : 0 ≤ n ∧ n < 65536) :
    Calls Try.prog 46 #[.pointer (some ⟨g, 0, none⟩), .int .i64 n] w fun en w' => ∃ A' c', en = .returned (.slice A' (countR n c0).2.length c') ∧ (countR n c0).2.length ≤ c' ∧ (∀ W', Kept w' W' (fun k => k = g ∨ k = gm ∨ k = gr) → Kd.C (Kd.int .u16) W' A' (countR n c0).2.length (countR n c0).2) ∧ PS.Sk wb w0 gr g gm w' (countR n c0).1 m := by
  have HP := Aside0.mk h
  clear h
  go_enter Try.func46, Try.ntmps46
  obtain ⟨lb, hb⟩ := Cu.byteV_bd (PS.Sk.good HP.out)
  have wk := wrap64_id (x := c0.byteV) (by omega) (by omega)
  have wkb : IntKind.i64.wrap (c0.byteV) = c0.byteV := by rw [i64_w]; exact wk
  have w2 := wrap64_id (x := 2 * n) (by omega) (by omega)
  go_upto_region 2 with (first | (go_at_call 41; obtain ⟨l0, h0⟩ := Cu.byteV_bd (PS.Sk.good HP.out); (with_reducible refine (PS.Sk.byte HP.out).mono ?_); rintro en x1 ⟨rfl, hp_⟩; obtain ⟨c1, ec_⟩ : ∃ z, z = c0.byteS := ⟨_, rfl⟩; rw [← ec_] at hp_; have Ec1 := Aside0.mk ec_; clear ec_; have n0_ := Aside0.mk hp_; clear HP hp_; have HP := n0_; clear n0_) | (go_at_call 42; (with_reducible refine (PS.Sk.need HP.out (c0.byteV == 2 * n) 5).mono ?_); rintro en x2 ⟨rfl, hp_⟩; obtain ⟨c2, ec_⟩ : ∃ z, z = c1.need (c0.byteV == 2 * n) 5 := ⟨_, rfl⟩; rw [← ec_] at hp_; have Ec2 := Aside0.mk ec_; clear ec_; have n0_ := Aside0.mk hp_; clear HP hp_; have HP := n0_; clear n0_))
  go_wp2_with (first | (go_at_call 43; (with_reducible refine (PS.Sk.words HP.out (n)).mono ?_); rintro en x3 ⟨A5, n5, rfl, hz_, hr_, hp_⟩; obtain ⟨c3, ec_⟩ : ∃ z, z = c2.wordsS (n) := ⟨_, rfl⟩; rw [← ec_] at hp_; have Ec3 := Aside0.mk ec_; clear ec_; have R5 := Aside0.mk hr_; have R5z := Aside0.mk hz_; clear hr_ hz_; have n0_ := Aside0.mk hp_; clear HP hp_; have HP := n0_; clear n0_))
  go_ret
  have eq_ : countR n c0 = (c3, c2.wordsV n) := by
    rw [Ec3.out, Ec2.out, Ec1.out]
    rfl
  rw [eq_]
  exact ⟨A5, n5, rfl, R5z.out, fun W' hk => R5.out W' hk, HP.out⟩
def where.T0 : Bool × List (List Nat × List Nat) := (true, [([], []), ([], []), ([1], [1]), ([0, 0, 1, 2], [0]), ([3, 0, 1, 2], [3]), ([4, 2, 2, 0, 1, 2], [2, 4])])
def where.B0 : List Nat := [0, 0, 2, 7, 15, 31]
theorem where.tab0 : rtab .any (opsOf Try.f36 0) = where.T0 := by kernel_rfl
theorem where.bits0 : waitsOk where.T0.2 where.B0 = true := by kernel_rfl
def where.T1 : Bool × List (List Nat × List Nat) := (true, [([], []), ([], []), ([], []), ([2], [2]), ([3], [3]), ([4], [4]), ([], []), ([1, 5, 6], [1, 5, 6]), ([7], [7]), ([0, 0, 1, 2, 3, 4, 5, 6, 7, 8], [0]), ([9, 0, 1, 2, 3, 4, 5, 6, 7, 8], [9]), ([10, 8, 7, 0, 1, 2, 3, 4, 5, 6, 7, 8], [8, 10])])
def where.B1 : List Nat := [0, 0, 0, 4, 12, 28, 0, 126, 254, 511, 1023, 2047]
theorem where.tab1 : rtab .any (opsOf Try.f36 1) = where.T1 := by kernel_rfl
theorem where.bits1 : waitsOk where.T1.2 where.B1 = true := by kernel_rfl
theorem where_any {wb w0 w : World} {gr g gm : Nat} {c0 : Cu} {m : Msg} (h : PS.Sk wb w0 gr g gm w c0 m) {a5 : Nat} (f5 : wb.cell? ⟨a5, 0, none⟩ = some (.pointer (some ⟨g, 0, none⟩))) (F5g : a5 ≠ g) (F5m : a5 ≠ gm) {a4 : Nat} (f4 : wb.cell? ⟨a4, 0, none⟩ = some (.pointer (some ⟨gm, 0, none⟩))) (F4g : a4 ≠ g) (F4m : a4 ≠ gm) (most : Int) :
    Calls Try.prog 36 #[.int .i64 most, .pointer (some ⟨a5, 0, none⟩), .pointer (some ⟨a4, 0, none⟩)] w fun en w' => en = .returned (.tuple #[]) ∧ PS.Sk wb w0 gr g gm w' (whereR most m c0).1 (whereR most m c0).2 := by
  have HP := Aside0.mk h
  have F5 := Aside0.mk f5
  have F4 := Aside0.mk f4
  clear h f5 f4
  go_enter Try.func36, Try.ntmps36
  go_upto_region 0 with (fail)
  have n0_ := Aside0.mk (PS.Sk.below HP.out (below_drew (Below.refl _ _)))
  clear HP
  have HP := n0_
  clear n0_
  obtain ⟨l0, h0⟩ := Cu.wordV_bd (PS.Sk.good HP.out)
  refine start_ (n := 6) (S := fun w' => w'.cell? ⟨a5, 0, none⟩ = some (.pointer (some ⟨g, 0, none⟩)) ∧ w'.cell? ⟨a4, 0, none⟩ = some (.pointer (some ⟨gm, 0, none⟩))) (ds := []) (bm 6 0) (by as_aux_lemma => kernel_rfl) rfl (by as_aux_lemma => kernel_rfl) ⟨(PS.Sk.cell HP.out F5.out F5g F5m), (PS.Sk.cell HP.out F4.out F4g F4m)⟩ (fun hHeld => ?_)
  refine with_tabW where.tab0 where.bits0 (fun HT_ HW_ => ?_)
  refine tk_ 0 (some 4) (bm 6 1) HT_ HW_ hHeld (by as_aux_lemma => kernel_rfl) rfl rfl (fun _ _ _ h => h) (by rfl) (by rintro w' ⟨s0, s1⟩; go_simp; with_reducible rfl) (by go_simp; rfl) ?_
  refine tk_ 1 (some 5) (bm 6 3) HT_ HW_ hHeld (by as_aux_lemma => kernel_rfl) rfl rfl (fun _ _ _ h => h) (by rfl) (by rintro w' ⟨s0, s1⟩; go_simp; with_reducible rfl) (by go_simp; rfl) ?_
  refine one_ (i := 2) (N := some 6) (bm 6 7) rfl rfl (one_of HT_.out (by as_aux_lemma => kernel_rfl)) (by as_aux_lemma => decide) (fun K hK => ?_)
  refine goes_ Try.func37 (by as_aux_lemma => kernel_rfl) rfl #[.pointer (some ⟨g, 0, none⟩)] (by rfl) rfl rfl (by simp only [List.map_toArray, List.map_cons, List.map_nil]; rfl) ?_
  with_reducible refine (PS.Sk.word HP.out).mono ?_
  rintro en x1 ⟨rfl, hp_⟩
  obtain ⟨c1, ec_⟩ : ∃ z, z = c0.wordS := ⟨_, rfl⟩
  rw [← ec_] at hp_
  have Ec1 := Aside0.mk ec_
  clear ec_
  obtain ⟨kaddr, faddr⟩ := PS.Sk.at_addr hp_
  have n0_ := Aside0.mk hp_
  clear HP hp_
  have HP := n0_
  clear n0_
  refine ⟨_, rfl, ?_⟩
  refine hK.out _ _ ⟨(PS.Sk.cell HP.out F5.out F5g F5m), (PS.Sk.cell HP.out F4.out F4g F4m)⟩ (fun hHeld => ?_)
  clear hK K
  refine norm_ (a' := ?_) ?_ ?_
  rotate_left
  · show Act.put _ (some 6) _ = _
    simp only [Act.put, List.setIfInBounds_toArray, List.set_cons_zero, List.set_cons_succ, i64_w, i32_w]
    rfl
  refine pu_ 3 (some 7) (bm 6 15) HT_ (by as_aux_lemma => kernel_rfl) rfl rfl (fun _ _ _ h => h) (by rfl) (by intro w'; go_simp; with_reducible rfl) (by go_simp; rfl) ?_
  refine pu_ 4 (some 8) (bm 6 31) HT_ (by as_aux_lemma => kernel_rfl) rfl rfl (fun _ _ _ h => h) (by rfl) (by intro w'; go_simp; with_reducible rfl) (by go_simp; rfl) ?_
  refine one_ (i := 5) (N := none) (bm 6 63) rfl rfl (one_of HT_.out (by as_aux_lemma => kernel_rfl)) (by as_aux_lemma => decide) (fun K hK => ?_)
  refine skip_ (w1 := ?_) (by rfl) rfl ?_ ?_
  rotate_left
  · go_simp
    rfl
  have hp_ := HP.out.put_addr ⟨l0, h0⟩
  have n0_ := Aside0.mk hp_
  clear HP hp_
  have HP := n0_
  clear n0_
  refine hK.out _ _ ⟨(PS.Sk.cell HP.out F5.out F5g F5m), (PS.Sk.cell HP.out F4.out F4g F4m)⟩ (fun hHeld => ?_)
  clear hK K
  refine done_ (done_of HT_.out (by as_aux_lemma => kernel_rfl)) ?_
  clear kaddr faddr
  go_upto_region 1 with (fail)
  have n0_ := Aside0.mk (PS.Sk.below HP.out (below_drew (Below.refl _ _)))
  clear HP
  have HP := n0_
  clear n0_
  obtain ⟨ln, hn⟩ := spanR_bd (PS.Sk.good HP.out) most c0.wordV
  have wu : IntKind.u16.wrap (spanR most c0.wordV c1).2 = (spanR most c0.wordV c1).2 := by rw [IntKind.wrap_u16]; omega
  refine start_ (n := 12) (S := fun w' => w'.cell? ⟨a5, 0, none⟩ = some (.pointer (some ⟨g, 0, none⟩)) ∧ w'.cell? ⟨a4, 0, none⟩ = some (.pointer (some ⟨gm, 0, none⟩)) ∧ w'.cell? ⟨gm, 2, none⟩ = some (.int .u16 c0.wordV)) (ds := []) (bm 12 0) (by as_aux_lemma => kernel_rfl) rfl (by as_aux_lemma => kernel_rfl) ⟨(PS.Sk.cell HP.out F5.out F5g F5m), (PS.Sk.cell HP.out F4.out F4g F4m), (PS.Sk.at_addr HP.out).1⟩ (fun hHeld => ?_)
  refine with_tabW where.tab1 where.bits1 (fun HT_ HW_ => ?_)
  refine pu_ 6 (some 15) (bm 12 64) HT_ (by as_aux_lemma => kernel_rfl) rfl rfl (fun _ _ _ h => h) (by rfl) (by intro w'; go_simp; with_reducible rfl) (by go_simp; rfl) ?_
  refine tk_ 0 (some 9) (bm 12 65) HT_ HW_ hHeld (by as_aux_lemma => kernel_rfl) rfl rfl (fun _ _ _ h => h) (by rfl) (by rintro w' ⟨s0, s1, s2⟩; go_simp; with_reducible rfl) (by go_simp; rfl) ?_
  refine tk_ 1 (some 10) (bm 12 67) HT_ HW_ hHeld (by as_aux_lemma => kernel_rfl) rfl rfl (fun _ _ _ h => h) (by rfl) (by rintro w' ⟨s0, s1, s2⟩; go_simp; with_reducible rfl) (by go_simp; rfl) ?_
  refine tk_ 2 (some 11) (bm 12 71) HT_ HW_ hHeld (by as_aux_lemma => kernel_rfl) rfl rfl (fun _ _ _ h => h) (by rfl) (by rintro w' ⟨s0, s1, s2⟩; go_simp; with_reducible rfl) (by go_simp; rfl) ?_
  refine pu_ 3 (some 12) (bm 12 79) HT_ (by as_aux_lemma => kernel_rfl) rfl rfl (fun _ _ _ h => h) (by rfl) (by intro w'; go_simp; with_reducible rfl) (by go_simp; rfl) ?_
  refine pu_ 4 (some 13) (bm 12 95) HT_ (by as_aux_lemma => kernel_rfl) rfl rfl (fun _ _ _ h => h) (by rfl) (by intro w'; go_simp; with_reducible rfl) (by go_simp; rfl) ?_
  refine tk_ 5 (some 14) (bm 12 127) HT_ HW_ hHeld (by as_aux_lemma => kernel_rfl) rfl rfl (fun _ _ _ h => h) (by rfl) (by rintro w' ⟨s0, s1, s2⟩; go_simp; with_reducible rfl) (by go_simp; rfl) ?_
  refine one_ (i := 7) (N := some 16) (bm 12 255) rfl rfl (one_of HT_.out (by as_aux_lemma => kernel_rfl)) (by as_aux_lemma => decide) (fun K hK => ?_)
  refine goes_ Try.func38 (by as_aux_lemma => kernel_rfl) rfl #[.pointer (some ⟨g, 0, none⟩), .int .u16 c0.wordV, .int .i64 most] (by rfl) rfl rfl (by simp only [List.map_toArray, List.map_cons, List.map_nil]; rfl) ?_
  with_reducible refine (span_any HP.out ⟨l0, h0⟩ most).mono ?_
  rintro en x91 ⟨rfl, hp_⟩
  obtain ⟨c2, e2_⟩ : ∃ z, z = (spanR most c0.wordV c1).1 := ⟨_, rfl⟩
  rw [← e2_] at hp_
  have Ec2 := Aside0.mk e2_
  clear e2_
  obtain ⟨kcount, fcount⟩ := PS.Sk.at_count hp_
  have n0_ := Aside0.mk (hp_)
  clear HP
  have HP := n0_
  clear n0_
  clear hp_
  refine ⟨_, rfl, ?_⟩
  refine hK.out _ _ ⟨(PS.Sk.cell HP.out F5.out F5g F5m), (PS.Sk.cell HP.out F4.out F4g F4m), (PS.Sk.at_addr HP.out).1⟩ (fun hHeld => ?_)
  clear hK K
  refine norm_ (a' := ?_) ?_ ?_
  rotate_left
  · show Act.put _ (some 16) _ = _
    simp only [Act.put, List.setIfInBounds_toArray, List.set_cons_zero, List.set_cons_succ, i64_w, i32_w]
    rfl
  refine pu_ 8 (some 17) (bm 12 511) HT_ (by as_aux_lemma => kernel_rfl) rfl rfl (fun _ _ _ h => h) (by rfl) (by intro w'; go_simp; with_reducible rfl) (by go_simp; rfl) ?_
  refine pu_ 9 (some 18) (bm 12 1023) HT_ (by as_aux_lemma => kernel_rfl) rfl rfl (fun _ _ _ h => h) (by rfl) (by intro w'; go_simp; with_reducible rfl) (by go_simp; rfl) ?_
  refine pu_ 10 (some 19) (bm 12 2047) HT_ (by as_aux_lemma => kernel_rfl) rfl rfl (fun _ _ _ h => h) (by rfl) (by intro w'; go_simp; with_reducible rfl) (by go_simp; rfl) ?_
  refine one_ (i := 11) (N := none) (bm 12 4095) rfl rfl (one_of HT_.out (by as_aux_lemma => kernel_rfl)) (by as_aux_lemma => decide) (fun K hK => ?_)
  refine skip_ (w1 := ?_) (by rfl) rfl ?_ ?_
  rotate_left
  · go_simp
    rfl
  have hp_ := HP.out.put_count ⟨ln, hn⟩
  have n0_ := Aside0.mk hp_
  clear HP hp_
  have HP := n0_
  clear n0_
  refine hK.out _ _ ⟨(PS.Sk.cell HP.out F5.out F5g F5m), (PS.Sk.cell HP.out F4.out F4g F4m), (PS.Sk.at_addr HP.out).1⟩ (fun hHeld => ?_)
  clear hK K
  refine done_ (done_of HT_.out (by as_aux_lemma => kernel_rfl)) ?_
  go_wp2
  have eq_ : whereR most m c0 = (c2, { m with addr := c0.wordV, count := (spanR most c0.wordV c1).2 }) := by
    rw [Ec2.out, Ec1.out]
    rfl
  rw [eq_]
  exact bodyPost_end (results_none rfl _ _ _) rfl (⟨rfl, HP.out⟩)
theorem asks_any {wb w0 w : World} {gr g gm : Nat} {c0 : Cu} {m : Msg} (h : PS.Sk wb w0 gr g gm w c0 m) {a5 : Nat} (f5 : wb.cell? ⟨a5, 0, none⟩ = some (.pointer (some ⟨g, 0, none⟩))) (F5g : a5 ≠ g) (F5m : a5 ≠ gm) {a4 : Nat} (f4 : wb.cell? ⟨a4, 0, none⟩ = some (.pointer (some ⟨gm, 0, none⟩))) (F4g : a4 ≠ g) (F4m : a4 ≠ gm) {a7 : Nat} (f7 : wb.cell? ⟨a7, 0, none⟩ = some (.func (.func 36) #[] #[.pointer (some ⟨a5, 0, none⟩), .pointer (some ⟨a4, 0, none⟩)])) (F7g : a7 ≠ g) (F7m : a7 ≠ gm) :
    Calls Try.prog 39 #[.pointer (some ⟨a7, 0, none⟩)] w fun en w' => en = .returned (.tuple #[]) ∧ PS.Sk wb w0 gr g gm w' (whereR 125 m c0).1 (whereR 125 m c0).2 := by
  have HP := Aside0.mk h
  have F5 := Aside0.mk f5
  have F4 := Aside0.mk f4
  have F7 := Aside0.mk f7
  clear h f5 f4 f7
  go_enter Try.func39, Try.ntmps39
  have wF5 := F5
  have wF4 := F4
  have qF7 := PS.Sk.cell HP.out F7.out F7g F7m
  go_wp2_with (first | (go_at_call 36; (with_reducible refine (where_any HP.out wF5.out F5g F5m wF4.out F4g F4m 125).mono ?_); rintro en x80 ⟨rfl, hp_⟩; obtain ⟨z1, ez_⟩ : ∃ z, z = whereR 125 m c0 := ⟨_, rfl⟩; rw [← ez_] at hp_; obtain ⟨c1, m1⟩ := z1; have EZ := Aside0.mk ez_; clear ez_; have n0_ := Aside0.mk hp_; clear HP hp_; have HP := n0_; clear n0_))
  replace HP : Aside0 (PS.Sk wb w0 gr g gm x80 c1 m1) := HP
  have eq_ : whereR 125 m c0 = (c1, m1) := EZ.out.symm
  rw [eq_]
  exact bodyPost_end (results_none rfl _ _ _) rfl (⟨rfl, HP.out⟩)
def told.T2 : Bool × List (List Nat × List Nat) := (true, [([], []), ([], []), ([], []), ([2], [2]), ([1, 3], [1, 3]), ([0, 0, 1, 2, 3, 4], [0]), ([5, 0, 1, 2, 3, 4], [5]), ([6, 4, 4, 0, 1, 2, 3, 4], [4, 6])])
def told.B2 : List Nat := [0, 0, 0, 4, 14, 31, 63, 127]
theorem told.tab2 : rtab .any (opsOf Try.f40 2) = told.T2 := by kernel_rfl
theorem told.bits2 : waitsOk told.T2.2 told.B2 = true := by kernel_rfl
theorem told_any {wb w0 w : World} {gr g gm : Nat} {c0 : Cu} {m : Msg} (h : PS.Sk wb w0 gr g gm w c0 m) {a5 : Nat} (f5 : wb.cell? ⟨a5, 0, none⟩ = some (.pointer (some ⟨g, 0, none⟩))) (F5g : a5 ≠ g) (F5m : a5 ≠ gm) {a4 : Nat} (f4 : wb.cell? ⟨a4, 0, none⟩ = some (.pointer (some ⟨gm, 0, none⟩))) (F4g : a4 ≠ g) (F4m : a4 ≠ gm) :
    Calls Try.prog 40 #[.pointer (some ⟨a5, 0, none⟩), .pointer (some ⟨a4, 0, none⟩)] w fun en w' => en = .returned (.tuple #[]) ∧ PS.Sk wb w0 gr g gm w' (toldR m c0).1 (toldR m c0).2 := by
  have HP := Aside0.mk h
  have F5 := Aside0.mk f5
  have F4 := Aside0.mk f4
  clear h f5 f4
  go_enter Try.func40, Try.ntmps40
  have qF5 := PS.Sk.cell HP.out F5.out F5g F5m
  go_upto_region 1 with (first | (go_at_call 41; obtain ⟨l0, h0⟩ := Cu.byteV_bd (PS.Sk.good HP.out); (with_reducible refine (PS.Sk.byte HP.out).mono ?_); rintro en x1 ⟨rfl, hp_⟩; obtain ⟨c1, ec_⟩ : ∃ z, z = c0.byteS := ⟨_, rfl⟩; rw [← ec_] at hp_; have Ec1 := Aside0.mk ec_; clear ec_; have n0_ := Aside0.mk hp_; clear HP hp_; have HP := n0_; clear n0_))
  have wk := wrap64_id (x := c0.byteV) (by omega) (by omega)
  have wkb : IntKind.i64.wrap (c0.byteV) = c0.byteV := by rw [i64_w]; exact wk
  have wd : Int.tdiv c0.byteV 2 = c0.byteV / 2 := Int.tdiv_eq_ediv_of_nonneg (by omega)
  have wq := wrap64_id (x := c0.byteV / 2) (by omega) (by omega)
  have wqb : IntKind.i64.wrap (c0.byteV / 2) = c0.byteV / 2 := by rw [i64_w]; exact wq
  clear qF5
  have qF5 := PS.Sk.cell HP.out F5.out F5g F5m
  obtain ⟨c2, e_⟩ : ∃ z, z = c1.need (c0.byteV % 2 == 0 && (decide (2 ≤ c0.byteV) && decide (c0.byteV ≤ 250))) 5 := ⟨_, rfl⟩
  have Ec2 := Aside0.mk e_
  clear e_
  go_cut [] from 6 to 19 (fun wx => Aside0 (PS.Sk wb w0 gr g gm wx c2 (m)))
  case first =>
    cases hs0_ : (c0.byteV % 2 == 0) with
    | true =>
      have hs0a_ : (c0.byteV % 2 != 0) = false := by first | exact hs0_ | (rw [bne, hs0_]; rfl) | (have := hs0_; rw [bne] at this; simpa using this)
      have hs0t_ : (Int.tmod c0.byteV 2 == 0) = true := by rw [Int.tmod_eq_emod_of_nonneg (by omega)]; exact hs0_
      cases hs1_ : (decide (2 ≤ c0.byteV)) with
      | true =>
        have hs1a_ : (decide (c0.byteV ≥ 2)) = true := by first | exact hs1_ | (rw [bne, hs1_]; rfl) | (have := hs1_; rw [bne] at this; simpa using this)
        have eb_ : (c0.byteV % 2 == 0 && (decide (2 ≤ c0.byteV) && decide (c0.byteV ≤ 250))) = (decide (c0.byteV ≤ 250)) := by first | (simp only [hs0_, hs1_]; first | rfl | (simp; done)) | (simp [hs0_, hs1_]; done) | (simp only [bne, hs0_, hs1_]; first | rfl | (simp; done))
        have EB_ := Aside0.mk eb_
        clear eb_
        go_wp2_with (first | (go_at_call 42; (with_reducible refine (PS.Sk.need HP.out (decide (c0.byteV ≤ 250)) 5).mono ?_); rintro en x2 ⟨rfl, hp_⟩; have n0_ := Aside0.mk hp_; clear HP hp_; have HP := n0_; clear n0_))
        go_meet
        rw [Ec2.out, EB_.out]
        exact HP
      | false =>
        have hs1a_ : (decide (c0.byteV ≥ 2)) = false := by first | exact hs1_ | (rw [bne, hs1_]; rfl) | (have := hs1_; rw [bne] at this; simpa using this)
        have eb_ : (c0.byteV % 2 == 0 && (decide (2 ≤ c0.byteV) && decide (c0.byteV ≤ 250))) = (false) := by first | (simp only [hs0_, hs1_]; first | rfl | (simp; done)) | (simp [hs0_, hs1_]; done) | (simp only [bne, hs0_, hs1_]; first | rfl | (simp; done))
        have EB_ := Aside0.mk eb_
        clear eb_
        go_wp2_with (first | (go_at_call 42; (with_reducible refine (PS.Sk.need HP.out (false) 5).mono ?_); rintro en x2 ⟨rfl, hp_⟩; have n0_ := Aside0.mk hp_; clear HP hp_; have HP := n0_; clear n0_))
        go_meet
        rw [Ec2.out, EB_.out]
        exact HP
    | false =>
      have hs0a_ : (c0.byteV % 2 != 0) = true := by first | exact hs0_ | (rw [bne, hs0_]; rfl) | (have := hs0_; rw [bne] at this; simpa using this)
      have hs0t_ : (Int.tmod c0.byteV 2 == 0) = false := by rw [Int.tmod_eq_emod_of_nonneg (by omega)]; exact hs0_
      have eb_ : (c0.byteV % 2 == 0 && (decide (2 ≤ c0.byteV) && decide (c0.byteV ≤ 250))) = (false) := by first | (simp only [hs0_]; first | rfl | (simp; done)) | (simp [hs0_]; done) | (simp only [bne, hs0_]; first | rfl | (simp; done))
      have EB_ := Aside0.mk eb_
      clear eb_
      go_wp2_with (first | (go_at_call 42; (with_reducible refine (PS.Sk.need HP.out (false) 5).mono ?_); rintro en x2 ⟨rfl, hp_⟩; have n0_ := Aside0.mk hp_; clear HP hp_; have HP := n0_; clear n0_))
      go_meet
      rw [Ec2.out, EB_.out]
      exact HP
  case rest =>
  clear HP
  have HP := hcut
  clear hcut
  clear qF5
  go_upto_region 2 with (fail)
  have n0_ := Aside0.mk (PS.Sk.below HP.out (below_drew (Below.refl _ _)))
  clear HP
  have HP := n0_
  clear n0_
  have HBY := Aside0.mk (Cu.wordsV_bd (PS.Sk.good HP.out) (c0.byteV / 2))
  refine start_ (n := 8) (S := fun w' => w'.cell? ⟨a5, 0, none⟩ = some (.pointer (some ⟨g, 0, none⟩)) ∧ w'.cell? ⟨a4, 0, none⟩ = some (.pointer (some ⟨gm, 0, none⟩))) (ds := []) (bm 8 0) (by as_aux_lemma => kernel_rfl) rfl (by as_aux_lemma => kernel_rfl) ⟨(PS.Sk.cell HP.out F5.out F5g F5m), (PS.Sk.cell HP.out F4.out F4g F4m)⟩ (fun hHeld => ?_)
  refine with_tabW told.tab2 told.bits2 (fun HT_ HW_ => ?_)
  refine pu_ 2 (some 21) (bm 8 4) HT_ (by as_aux_lemma => kernel_rfl) rfl rfl (fun _ _ _ h => h) (by rfl) (by intro w'; go_simp; with_reducible rfl) (by go_simp; rfl) ?_
  refine pu_ 3 (some 22) (bm 8 12) HT_ (by as_aux_lemma => kernel_rfl) rfl rfl (fun _ _ _ h => h) (by rfl) (by intro w'; go_simp; with_reducible rfl) (by go_simp; rfl) ?_
  refine tk_ 0 (some 19) (bm 8 13) HT_ HW_ hHeld (by as_aux_lemma => kernel_rfl) rfl rfl (fun _ _ _ h => h) (by rfl) (by rintro w' ⟨s0, s1⟩; go_simp; with_reducible rfl) (by go_simp; rfl) ?_
  refine tk_ 1 (some 20) (bm 8 15) HT_ HW_ hHeld (by as_aux_lemma => kernel_rfl) rfl rfl (fun _ _ _ h => h) (by rfl) (by rintro w' ⟨s0, s1⟩; go_simp; with_reducible rfl) (by go_simp; rfl) ?_
  refine one_ (i := 4) (N := some 23) (bm 8 31) rfl rfl (one_of HT_.out (by as_aux_lemma => kernel_rfl)) (by as_aux_lemma => decide) (fun K hK => ?_)
  refine goes_ Try.func43 (by as_aux_lemma => kernel_rfl) rfl #[.pointer (some ⟨g, 0, none⟩), .int .i64 (c0.byteV / 2)] (by rfl) rfl rfl (by simp only [List.map_toArray, List.map_cons, List.map_nil]; rfl) ?_
  with_reducible refine (PS.Sk.words HP.out (c0.byteV / 2)).mono ?_
  rintro en x3 ⟨A5, n5, rfl, hz_, hr_, hp_⟩
  obtain ⟨c3, ec_⟩ : ∃ z, z = c2.wordsS (c0.byteV / 2) := ⟨_, rfl⟩
  rw [← ec_] at hp_
  have Ec3 := Aside0.mk ec_
  clear ec_
  have R5 := Aside0.mk hr_
  have R5z := Aside0.mk hz_
  clear hr_ hz_
  have n0_ := Aside0.mk hp_
  clear HP hp_
  have HP := n0_
  clear n0_
  obtain ⟨Aw, nw, kw, fw⟩ := PS.Sk.at_words HP.out
  refine ⟨_, rfl, ?_⟩
  refine hK.out _ _ ⟨(PS.Sk.cell HP.out F5.out F5g F5m), (PS.Sk.cell HP.out F4.out F4g F4m)⟩ (fun hHeld => ?_)
  clear hK K
  refine norm_ (a' := ?_) ?_ ?_
  rotate_left
  · show Act.put _ (some 23) _ = _
    simp only [Act.put, List.setIfInBounds_toArray, List.set_cons_zero, List.set_cons_succ, i64_w, i32_w]
    rfl
  refine pu_ 5 (some 24) (bm 8 63) HT_ (by as_aux_lemma => kernel_rfl) rfl rfl (fun _ _ _ h => h) (by rfl) (by intro w'; go_simp; with_reducible rfl) (by go_simp; rfl) ?_
  refine pu_ 6 (some 25) (bm 8 127) HT_ (by as_aux_lemma => kernel_rfl) rfl rfl (fun _ _ _ h => h) (by rfl) (by intro w'; go_simp; with_reducible rfl) (by go_simp; rfl) ?_
  refine one_ (i := 7) (N := none) (bm 8 255) rfl rfl (one_of HT_.out (by as_aux_lemma => kernel_rfl)) (by as_aux_lemma => decide) (fun K hK => ?_)
  refine skip_ (w1 := ?_) (by rfl) rfl ?_ ?_
  rotate_left
  · go_simp
    rfl
  have hp_ := HP.out.put_words R5z.out HBY.out R5.out
  have n0_ := Aside0.mk hp_
  clear HP hp_
  have HP := n0_
  clear n0_
  refine hK.out _ _ ⟨(PS.Sk.cell HP.out F5.out F5g F5m), (PS.Sk.cell HP.out F4.out F4g F4m)⟩ (fun hHeld => ?_)
  clear hK K
  refine done_ (done_of HT_.out (by as_aux_lemma => kernel_rfl)) ?_
  go_wp2
  have eq_ : toldR m c0 = (c3, { m with words := c2.wordsV (c0.byteV / 2) }) := by
    rw [Ec3.out, Ec2.out, Ec1.out]
    rfl
  rw [eq_]
  exact bodyPost_end (results_none rfl _ _ _) rfl (⟨rfl, HP.out⟩)
def one.T0 : Bool × List (List Nat × List Nat) := (true, [([], []), ([], []), ([], []), ([2], [2]), ([], []), ([4, 3], [4]), ([0, 0, 2, 3, 5], [0]), ([6, 0, 2, 3, 5], [6]), ([7, 3, 5, 0, 2, 3, 5], [3, 7]), ([1, 0, 1, 2, 3, 4, 5, 6, 7, 8], [1]), ([9, 0, 1, 2, 3, 4, 5, 6, 7, 8], [9]), ([10, 5, 8, 0, 1, 2, 3, 4, 5, 6, 7, 8], [5, 10])])
def one.B0 : List Nat := [0, 0, 0, 4, 0, 28, 61, 125, 253, 511, 1023, 2047]
theorem one.tab0 : rtab .any (opsOf Try.f44 0) = one.T0 := by kernel_rfl
theorem one.bits0 : waitsOk one.T0.2 one.B0 = true := by kernel_rfl
theorem one_any {wb w0 w : World} {gr g gm : Nat} {c0 : Cu} {m : Msg} (h : PS.Sk wb w0 gr g gm w c0 m) {a5 : Nat} (f5 : wb.cell? ⟨a5, 0, none⟩ = some (.pointer (some ⟨g, 0, none⟩))) (F5g : a5 ≠ g) (F5m : a5 ≠ gm) {a4 : Nat} (f4 : wb.cell? ⟨a4, 0, none⟩ = some (.pointer (some ⟨gm, 0, none⟩))) (F4g : a4 ≠ g) (F4m : a4 ≠ gm) :
    Calls Try.prog 44 #[.pointer (some ⟨a5, 0, none⟩), .pointer (some ⟨a4, 0, none⟩)] w fun en w' => en = .returned (.tuple #[]) ∧ PS.Sk wb w0 gr g gm w' (oneR m c0).1 (oneR m c0).2 := by
  have HP := Aside0.mk h
  have F5 := Aside0.mk f5
  have F4 := Aside0.mk f4
  clear h f5 f4
  go_enter Try.func44, Try.ntmps44
  go_upto_region 0 with (fail)
  have n0_ := Aside0.mk (PS.Sk.below HP.out (below_drew (Below.refl _ _)))
  clear HP
  have HP := n0_
  clear n0_
  refine start_ (n := 12) (S := fun w' => w'.cell? ⟨a5, 0, none⟩ = some (.pointer (some ⟨g, 0, none⟩)) ∧ w'.cell? ⟨a4, 0, none⟩ = some (.pointer (some ⟨gm, 0, none⟩))) (ds := []) (bm 12 0) (by as_aux_lemma => kernel_rfl) rfl (by as_aux_lemma => kernel_rfl) ⟨(PS.Sk.cell HP.out F5.out F5g F5m), (PS.Sk.cell HP.out F4.out F4g F4m)⟩ (fun hHeld => ?_)
  refine with_tabW one.tab0 one.bits0 (fun HT_ HW_ => ?_)
  refine tk_ 0 (some 2) (bm 12 1) HT_ HW_ hHeld (by as_aux_lemma => kernel_rfl) rfl rfl (fun _ _ _ h => h) (by rfl) (by rintro w' ⟨s0, s1⟩; go_simp; with_reducible rfl) (by go_simp; rfl) ?_
  refine tk_ 1 (some 3) (bm 12 3) HT_ HW_ hHeld (by as_aux_lemma => kernel_rfl) rfl rfl (fun _ _ _ h => h) (by rfl) (by rintro w' ⟨s0, s1⟩; go_simp; with_reducible rfl) (by go_simp; rfl) ?_
  refine tk_ 2 (some 4) (bm 12 7) HT_ HW_ hHeld (by as_aux_lemma => kernel_rfl) rfl rfl (fun _ _ _ h => h) (by rfl) (by rintro w' ⟨s0, s1⟩; go_simp; with_reducible rfl) (by go_simp; rfl) ?_
  refine tk_ 4 (some 6) (bm 12 23) HT_ HW_ hHeld (by as_aux_lemma => kernel_rfl) rfl rfl (fun _ _ _ h => h) (by rfl) (by rintro w' ⟨s0, s1⟩; go_simp; with_reducible rfl) (by go_simp; rfl) ?_
  refine one_ (i := 3) (N := some 5) (bm 12 31) rfl rfl (one_of HT_.out (by as_aux_lemma => kernel_rfl)) (by as_aux_lemma => decide) (fun K hK => ?_)
  obtain ⟨l0, h0⟩ := Cu.wordV_bd (PS.Sk.good HP.out)
  refine goes_ Try.func37 (by as_aux_lemma => kernel_rfl) rfl #[.pointer (some ⟨g, 0, none⟩)] (by rfl) rfl rfl (by simp only [List.map_toArray, List.map_cons, List.map_nil]; rfl) ?_
  with_reducible refine (PS.Sk.word HP.out).mono ?_
  rintro en x1 ⟨rfl, hp_⟩
  obtain ⟨c1, ec_⟩ : ∃ z, z = c0.wordS := ⟨_, rfl⟩
  rw [← ec_] at hp_
  have Ec1 := Aside0.mk ec_
  clear ec_
  have n0_ := Aside0.mk hp_
  clear HP hp_
  have HP := n0_
  clear n0_
  refine ⟨_, rfl, ?_⟩
  refine hK.out _ _ ⟨(PS.Sk.cell HP.out F5.out F5g F5m), (PS.Sk.cell HP.out F4.out F4g F4m)⟩ (fun hHeld => ?_)
  clear hK K
  refine norm_ (a' := ?_) ?_ ?_
  rotate_left
  · show Act.put _ (some 5) _ = _
    simp only [Act.put, List.setIfInBounds_toArray, List.set_cons_zero, List.set_cons_succ, i64_w, i32_w]
    rfl
  refine one_ (i := 5) (N := some 7) (bm 12 63) rfl rfl (one_of HT_.out (by as_aux_lemma => kernel_rfl)) (by as_aux_lemma => decide) (fun K hK => ?_)
  obtain ⟨l1, h1⟩ := Cu.wordV_bd (PS.Sk.good HP.out)
  refine goes_ Try.func37 (by as_aux_lemma => kernel_rfl) rfl #[.pointer (some ⟨g, 0, none⟩)] (by rfl) rfl rfl (by simp only [List.map_toArray, List.map_cons, List.map_nil]; rfl) ?_
  with_reducible refine (PS.Sk.word HP.out).mono ?_
  rintro en x2 ⟨rfl, hp_⟩
  obtain ⟨c2, ec_⟩ : ∃ z, z = c1.wordS := ⟨_, rfl⟩
  rw [← ec_] at hp_
  have Ec2 := Aside0.mk ec_
  clear ec_
  obtain ⟨kaddr, faddr⟩ := PS.Sk.at_addr hp_
  obtain ⟨kvalue, fvalue⟩ := PS.Sk.at_value hp_
  have n0_ := Aside0.mk hp_
  clear HP hp_
  have HP := n0_
  clear n0_
  refine ⟨_, rfl, ?_⟩
  refine hK.out _ _ ⟨(PS.Sk.cell HP.out F5.out F5g F5m), (PS.Sk.cell HP.out F4.out F4g F4m)⟩ (fun hHeld => ?_)
  clear hK K
  refine norm_ (a' := ?_) ?_ ?_
  rotate_left
  · show Act.put _ (some 7) _ = _
    simp only [Act.put, List.setIfInBounds_toArray, List.set_cons_zero, List.set_cons_succ, i64_w, i32_w]
    rfl
  refine pu_ 6 (some 8) (bm 12 127) HT_ (by as_aux_lemma => kernel_rfl) rfl rfl (fun _ _ _ h => h) (by rfl) (by intro w'; go_simp; with_reducible rfl) (by go_simp; rfl) ?_
  refine pu_ 7 (some 9) (bm 12 255) HT_ (by as_aux_lemma => kernel_rfl) rfl rfl (fun _ _ _ h => h) (by rfl) (by intro w'; go_simp; with_reducible rfl) (by go_simp; rfl) ?_
  refine one_ (i := 8) (N := none) (bm 12 511) rfl rfl (one_of HT_.out (by as_aux_lemma => kernel_rfl)) (by as_aux_lemma => decide) (fun K hK => ?_)
  refine skip_ (w1 := ?_) (by rfl) rfl ?_ ?_
  rotate_left
  · go_simp
    rfl
  have hp_ := HP.out.put_addr ⟨l0, h0⟩
  have n0_ := Aside0.mk hp_
  clear HP hp_
  have HP := n0_
  clear n0_
  refine hK.out _ _ ⟨(PS.Sk.cell HP.out F5.out F5g F5m), (PS.Sk.cell HP.out F4.out F4g F4m)⟩ (fun hHeld => ?_)
  clear hK K
  refine pu_ 9 (some 10) (bm 12 1023) HT_ (by as_aux_lemma => kernel_rfl) rfl rfl (fun _ _ _ h => h) (by rfl) (by intro w'; go_simp; with_reducible rfl) (by go_simp; rfl) ?_
  refine pu_ 10 (some 11) (bm 12 2047) HT_ (by as_aux_lemma => kernel_rfl) rfl rfl (fun _ _ _ h => h) (by rfl) (by intro w'; go_simp; with_reducible rfl) (by go_simp; rfl) ?_
  refine one_ (i := 11) (N := none) (bm 12 4095) rfl rfl (one_of HT_.out (by as_aux_lemma => kernel_rfl)) (by as_aux_lemma => decide) (fun K hK => ?_)
  refine skip_ (w1 := ?_) (by rfl) rfl ?_ ?_
  rotate_left
  · go_simp
    rfl
  have hp_ := HP.out.put_value ⟨l1, h1⟩
  have n0_ := Aside0.mk hp_
  clear HP hp_
  have HP := n0_
  clear n0_
  refine hK.out _ _ ⟨(PS.Sk.cell HP.out F5.out F5g F5m), (PS.Sk.cell HP.out F4.out F4g F4m)⟩ (fun hHeld => ?_)
  clear hK K
  refine done_ (done_of HT_.out (by as_aux_lemma => kernel_rfl)) ?_
  go_wp2
  have eq_ : oneR m c0 = (c2, { m with addr := c0.wordV, value := c1.wordV }) := by
    rw [Ec2.out, Ec1.out]
    rfl
  rw [eq_]
  exact bodyPost_end (results_none rfl _ _ _) rfl (⟨rfl, HP.out⟩)
def mask.T0 : Bool × List (List Nat × List Nat) := (true, [([], []), ([], []), ([], []), ([], []), ([3], [3]), ([], []), ([5, 4], [5]), ([], []), ([7, 6], [7]), ([0, 0, 3, 4, 6, 8], [0]), ([9, 0, 3, 4, 6, 8], [9]), ([10, 4, 8, 0, 3, 4, 6, 8], [4, 10]), ([1, 0, 1, 3, 4, 5, 6, 8, 9, 10, 11], [1]), ([12, 0, 1, 3, 4, 5, 6, 8, 9, 10, 11], [12]), ([13, 6, 11, 0, 1, 3, 4, 5, 6, 8, 9, 10, 11], [6, 13]), ([2, 0, 1, 2, 3, 4, 5, 6, 7, 8, 9, 10, 11, 12, 13, 14], [2]), ([15, 0, 1, 2, 3, 4, 5, 6, 7, 8, 9, 10, 11, 12, 13, 14], [15]), ([16, 8, 14, 0, 1, 2, 3, 4, 5, 6, 7, 8, 9, 10, 11, 12, 13, 14], [8, 16])])
def mask.B0 : List Nat := [0, 0, 0, 0, 8, 0, 56, 0, 248, 505, 1017, 2041, 4091, 8187, 16379, 32767, 65535, 131071]
theorem mask.tab0 : rtab .any (opsOf Try.f47 0) = mask.T0 := by kernel_rfl
theorem mask.bits0 : waitsOk mask.T0.2 mask.B0 = true := by kernel_rfl
theorem mask_any {wb w0 w : World} {gr g gm : Nat} {c0 : Cu} {m : Msg} (h : PS.Sk wb w0 gr g gm w c0 m) {a5 : Nat} (f5 : wb.cell? ⟨a5, 0, none⟩ = some (.pointer (some ⟨g, 0, none⟩))) (F5g : a5 ≠ g) (F5m : a5 ≠ gm) {a4 : Nat} (f4 : wb.cell? ⟨a4, 0, none⟩ = some (.pointer (some ⟨gm, 0, none⟩))) (F4g : a4 ≠ g) (F4m : a4 ≠ gm) :
    Calls Try.prog 47 #[.pointer (some ⟨a5, 0, none⟩), .pointer (some ⟨a4, 0, none⟩)] w fun en w' => en = .returned (.tuple #[]) ∧ PS.Sk wb w0 gr g gm w' (maskR m c0).1 (maskR m c0).2 := by
  have HP := Aside0.mk h
  have F5 := Aside0.mk f5
  have F4 := Aside0.mk f4
  clear h f5 f4
  go_enter Try.func47, Try.ntmps47
  go_upto_region 0 with (fail)
  have n0_ := Aside0.mk (PS.Sk.below HP.out (below_drew (Below.refl _ _)))
  clear HP
  have HP := n0_
  clear n0_
  refine start_ (n := 18) (S := fun w' => w'.cell? ⟨a5, 0, none⟩ = some (.pointer (some ⟨g, 0, none⟩)) ∧ w'.cell? ⟨a4, 0, none⟩ = some (.pointer (some ⟨gm, 0, none⟩))) (ds := []) (bm 18 0) (by as_aux_lemma => kernel_rfl) rfl (by as_aux_lemma => kernel_rfl) ⟨(PS.Sk.cell HP.out F5.out F5g F5m), (PS.Sk.cell HP.out F4.out F4g F4m)⟩ (fun hHeld => ?_)
  refine with_tabW mask.tab0 mask.bits0 (fun HT_ HW_ => ?_)
  refine tk_ 0 (some 2) (bm 18 1) HT_ HW_ hHeld (by as_aux_lemma => kernel_rfl) rfl rfl (fun _ _ _ h => h) (by rfl) (by rintro w' ⟨s0, s1⟩; go_simp; with_reducible rfl) (by go_simp; rfl) ?_
  refine tk_ 1 (some 3) (bm 18 3) HT_ HW_ hHeld (by as_aux_lemma => kernel_rfl) rfl rfl (fun _ _ _ h => h) (by rfl) (by rintro w' ⟨s0, s1⟩; go_simp; with_reducible rfl) (by go_simp; rfl) ?_
  refine tk_ 2 (some 4) (bm 18 7) HT_ HW_ hHeld (by as_aux_lemma => kernel_rfl) rfl rfl (fun _ _ _ h => h) (by rfl) (by rintro w' ⟨s0, s1⟩; go_simp; with_reducible rfl) (by go_simp; rfl) ?_
  refine tk_ 3 (some 5) (bm 18 15) HT_ HW_ hHeld (by as_aux_lemma => kernel_rfl) rfl rfl (fun _ _ _ h => h) (by rfl) (by rintro w' ⟨s0, s1⟩; go_simp; with_reducible rfl) (by go_simp; rfl) ?_
  refine tk_ 5 (some 7) (bm 18 47) HT_ HW_ hHeld (by as_aux_lemma => kernel_rfl) rfl rfl (fun _ _ _ h => h) (by rfl) (by rintro w' ⟨s0, s1⟩; go_simp; with_reducible rfl) (by go_simp; rfl) ?_
  refine tk_ 7 (some 9) (bm 18 175) HT_ HW_ hHeld (by as_aux_lemma => kernel_rfl) rfl rfl (fun _ _ _ h => h) (by rfl) (by rintro w' ⟨s0, s1⟩; go_simp; with_reducible rfl) (by go_simp; rfl) ?_
  refine one_ (i := 4) (N := some 6) (bm 18 191) rfl rfl (one_of HT_.out (by as_aux_lemma => kernel_rfl)) (by as_aux_lemma => decide) (fun K hK => ?_)
  obtain ⟨l0, h0⟩ := Cu.wordV_bd (PS.Sk.good HP.out)
  refine goes_ Try.func37 (by as_aux_lemma => kernel_rfl) rfl #[.pointer (some ⟨g, 0, none⟩)] (by rfl) rfl rfl (by simp only [List.map_toArray, List.map_cons, List.map_nil]; rfl) ?_
  with_reducible refine (PS.Sk.word HP.out).mono ?_
  rintro en x1 ⟨rfl, hp_⟩
  obtain ⟨c1, ec_⟩ : ∃ z, z = c0.wordS := ⟨_, rfl⟩
  rw [← ec_] at hp_
  have Ec1 := Aside0.mk ec_
  clear ec_
  have n0_ := Aside0.mk hp_
  clear HP hp_
  have HP := n0_
  clear n0_
  refine ⟨_, rfl, ?_⟩
  refine hK.out _ _ ⟨(PS.Sk.cell HP.out F5.out F5g F5m), (PS.Sk.cell HP.out F4.out F4g F4m)⟩ (fun hHeld => ?_)
  clear hK K
  refine norm_ (a' := ?_) ?_ ?_
  rotate_left
  · show Act.put _ (some 6) _ = _
    simp only [Act.put, List.setIfInBounds_toArray, List.set_cons_zero, List.set_cons_succ, i64_w, i32_w]
    rfl
  refine one_ (i := 6) (N := some 8) (bm 18 255) rfl rfl (one_of HT_.out (by as_aux_lemma => kernel_rfl)) (by as_aux_lemma => decide) (fun K hK => ?_)
  obtain ⟨l1, h1⟩ := Cu.wordV_bd (PS.Sk.good HP.out)
  refine goes_ Try.func37 (by as_aux_lemma => kernel_rfl) rfl #[.pointer (some ⟨g, 0, none⟩)] (by rfl) rfl rfl (by simp only [List.map_toArray, List.map_cons, List.map_nil]; rfl) ?_
  with_reducible refine (PS.Sk.word HP.out).mono ?_
  rintro en x2 ⟨rfl, hp_⟩
  obtain ⟨c2, ec_⟩ : ∃ z, z = c1.wordS := ⟨_, rfl⟩
  rw [← ec_] at hp_
  have Ec2 := Aside0.mk ec_
  clear ec_
  have n0_ := Aside0.mk hp_
  clear HP hp_
  have HP := n0_
  clear n0_
  refine ⟨_, rfl, ?_⟩
  refine hK.out _ _ ⟨(PS.Sk.cell HP.out F5.out F5g F5m), (PS.Sk.cell HP.out F4.out F4g F4m)⟩ (fun hHeld => ?_)
  clear hK K
  refine norm_ (a' := ?_) ?_ ?_
  rotate_left
  · show Act.put _ (some 8) _ = _
    simp only [Act.put, List.setIfInBounds_toArray, List.set_cons_zero, List.set_cons_succ, i64_w, i32_w]
    rfl
  refine one_ (i := 8) (N := some 10) (bm 18 511) rfl rfl (one_of HT_.out (by as_aux_lemma => kernel_rfl)) (by as_aux_lemma => decide) (fun K hK => ?_)
  obtain ⟨l2, h2⟩ := Cu.wordV_bd (PS.Sk.good HP.out)
  refine goes_ Try.func37 (by as_aux_lemma => kernel_rfl) rfl #[.pointer (some ⟨g, 0, none⟩)] (by rfl) rfl rfl (by simp only [List.map_toArray, List.map_cons, List.map_nil]; rfl) ?_
  with_reducible refine (PS.Sk.word HP.out).mono ?_
  rintro en x3 ⟨rfl, hp_⟩
  obtain ⟨c3, ec_⟩ : ∃ z, z = c2.wordS := ⟨_, rfl⟩
  rw [← ec_] at hp_
  have Ec3 := Aside0.mk ec_
  clear ec_
  obtain ⟨kaddr, faddr⟩ := PS.Sk.at_addr hp_
  obtain ⟨kand, fand⟩ := PS.Sk.at_and hp_
  obtain ⟨kor, f_or⟩ := PS.Sk.at_or hp_
  have n0_ := Aside0.mk hp_
  clear HP hp_
  have HP := n0_
  clear n0_
  refine ⟨_, rfl, ?_⟩
  refine hK.out _ _ ⟨(PS.Sk.cell HP.out F5.out F5g F5m), (PS.Sk.cell HP.out F4.out F4g F4m)⟩ (fun hHeld => ?_)
  clear hK K
  refine norm_ (a' := ?_) ?_ ?_
  rotate_left
  · show Act.put _ (some 10) _ = _
    simp only [Act.put, List.setIfInBounds_toArray, List.set_cons_zero, List.set_cons_succ, i64_w, i32_w]
    rfl
  refine pu_ 9 (some 11) (bm 18 1023) HT_ (by as_aux_lemma => kernel_rfl) rfl rfl (fun _ _ _ h => h) (by rfl) (by intro w'; go_simp; with_reducible rfl) (by go_simp; rfl) ?_
  refine pu_ 10 (some 12) (bm 18 2047) HT_ (by as_aux_lemma => kernel_rfl) rfl rfl (fun _ _ _ h => h) (by rfl) (by intro w'; go_simp; with_reducible rfl) (by go_simp; rfl) ?_
  refine one_ (i := 11) (N := none) (bm 18 4095) rfl rfl (one_of HT_.out (by as_aux_lemma => kernel_rfl)) (by as_aux_lemma => decide) (fun K hK => ?_)
  refine skip_ (w1 := ?_) (by rfl) rfl ?_ ?_
  rotate_left
  · go_simp
    rfl
  have hp_ := HP.out.put_addr ⟨l0, h0⟩
  have n0_ := Aside0.mk hp_
  clear HP hp_
  have HP := n0_
  clear n0_
  refine hK.out _ _ ⟨(PS.Sk.cell HP.out F5.out F5g F5m), (PS.Sk.cell HP.out F4.out F4g F4m)⟩ (fun hHeld => ?_)
  clear hK K
  refine pu_ 12 (some 13) (bm 18 8191) HT_ (by as_aux_lemma => kernel_rfl) rfl rfl (fun _ _ _ h => h) (by rfl) (by intro w'; go_simp; with_reducible rfl) (by go_simp; rfl) ?_
  refine pu_ 13 (some 14) (bm 18 16383) HT_ (by as_aux_lemma => kernel_rfl) rfl rfl (fun _ _ _ h => h) (by rfl) (by intro w'; go_simp; with_reducible rfl) (by go_simp; rfl) ?_
  refine one_ (i := 14) (N := none) (bm 18 32767) rfl rfl (one_of HT_.out (by as_aux_lemma => kernel_rfl)) (by as_aux_lemma => decide) (fun K hK => ?_)
  refine skip_ (w1 := ?_) (by rfl) rfl ?_ ?_
  rotate_left
  · go_simp
    rfl
  have hp_ := HP.out.put_and ⟨l1, h1⟩
  have n0_ := Aside0.mk hp_
  clear HP hp_
  have HP := n0_
  clear n0_
  refine hK.out _ _ ⟨(PS.Sk.cell HP.out F5.out F5g F5m), (PS.Sk.cell HP.out F4.out F4g F4m)⟩ (fun hHeld => ?_)
  clear hK K
  refine pu_ 15 (some 15) (bm 18 65535) HT_ (by as_aux_lemma => kernel_rfl) rfl rfl (fun _ _ _ h => h) (by rfl) (by intro w'; go_simp; with_reducible rfl) (by go_simp; rfl) ?_
  refine pu_ 16 (some 16) (bm 18 131071) HT_ (by as_aux_lemma => kernel_rfl) rfl rfl (fun _ _ _ h => h) (by rfl) (by intro w'; go_simp; with_reducible rfl) (by go_simp; rfl) ?_
  refine one_ (i := 17) (N := none) (bm 18 262143) rfl rfl (one_of HT_.out (by as_aux_lemma => kernel_rfl)) (by as_aux_lemma => decide) (fun K hK => ?_)
  refine skip_ (w1 := ?_) (by rfl) rfl ?_ ?_
  rotate_left
  · go_simp
    rfl
  have hp_ := HP.out.put_or ⟨l2, h2⟩
  have n0_ := Aside0.mk hp_
  clear HP hp_
  have HP := n0_
  clear n0_
  refine hK.out _ _ ⟨(PS.Sk.cell HP.out F5.out F5g F5m), (PS.Sk.cell HP.out F4.out F4g F4m)⟩ (fun hHeld => ?_)
  clear hK K
  refine done_ (done_of HT_.out (by as_aux_lemma => kernel_rfl)) ?_
  go_wp2
  have eq_ : maskR m c0 = (c3, { m with addr := c0.wordV, and_ := c1.wordV, or_ := c2.wordV }) := by
    rw [Ec3.out, Ec2.out, Ec1.out]
    rfl
  rw [eq_]
  exact bodyPost_end (results_none rfl _ _ _) rfl (⟨rfl, HP.out⟩)
def place.T0 : Bool × List (List Nat × List Nat) := (true, [([], []), ([], []), ([1], [1]), ([0, 0, 1, 2], [0]), ([3, 0, 1, 2], [3]), ([4, 2, 2, 0, 1, 2], [2, 4])])
def place.B0 : List Nat := [0, 0, 2, 7, 15, 31]
theorem place.tab0 : rtab .any (opsOf Try.f49 0) = place.T0 := by kernel_rfl
theorem place.bits0 : waitsOk place.T0.2 place.B0 = true := by kernel_rfl
theorem place_any {wb w0 w : World} {gr g gm : Nat} {c0 : Cu} {m : Msg} (h : PS.Sk wb w0 gr g gm w c0 m) {a5 : Nat} (f5 : wb.cell? ⟨a5, 0, none⟩ = some (.pointer (some ⟨g, 0, none⟩))) (F5g : a5 ≠ g) (F5m : a5 ≠ gm) {a4 : Nat} (f4 : wb.cell? ⟨a4, 0, none⟩ = some (.pointer (some ⟨gm, 0, none⟩))) (F4g : a4 ≠ g) (F4m : a4 ≠ gm) :
    Calls Try.prog 49 #[.pointer (some ⟨a5, 0, none⟩), .pointer (some ⟨a4, 0, none⟩)] w fun en w' => en = .returned (.tuple #[]) ∧ PS.Sk wb w0 gr g gm w' (placeR m c0).1 (placeR m c0).2 := by
  have HP := Aside0.mk h
  have F5 := Aside0.mk f5
  have F4 := Aside0.mk f4
  clear h f5 f4
  go_enter Try.func49, Try.ntmps49
  go_upto_region 0 with (fail)
  have n0_ := Aside0.mk (PS.Sk.below HP.out (below_drew (Below.refl _ _)))
  clear HP
  have HP := n0_
  clear n0_
  refine start_ (n := 6) (S := fun w' => w'.cell? ⟨a5, 0, none⟩ = some (.pointer (some ⟨g, 0, none⟩)) ∧ w'.cell? ⟨a4, 0, none⟩ = some (.pointer (some ⟨gm, 0, none⟩))) (ds := []) (bm 6 0) (by as_aux_lemma => kernel_rfl) rfl (by as_aux_lemma => kernel_rfl) ⟨(PS.Sk.cell HP.out F5.out F5g F5m), (PS.Sk.cell HP.out F4.out F4g F4m)⟩ (fun hHeld => ?_)
  refine with_tabW place.tab0 place.bits0 (fun HT_ HW_ => ?_)
  refine tk_ 0 (some 2) (bm 6 1) HT_ HW_ hHeld (by as_aux_lemma => kernel_rfl) rfl rfl (fun _ _ _ h => h) (by rfl) (by rintro w' ⟨s0, s1⟩; go_simp; with_reducible rfl) (by go_simp; rfl) ?_
  refine tk_ 1 (some 3) (bm 6 3) HT_ HW_ hHeld (by as_aux_lemma => kernel_rfl) rfl rfl (fun _ _ _ h => h) (by rfl) (by rintro w' ⟨s0, s1⟩; go_simp; with_reducible rfl) (by go_simp; rfl) ?_
  refine one_ (i := 2) (N := some 4) (bm 6 7) rfl rfl (one_of HT_.out (by as_aux_lemma => kernel_rfl)) (by as_aux_lemma => decide) (fun K hK => ?_)
  obtain ⟨l0, h0⟩ := Cu.wordV_bd (PS.Sk.good HP.out)
  refine goes_ Try.func37 (by as_aux_lemma => kernel_rfl) rfl #[.pointer (some ⟨g, 0, none⟩)] (by rfl) rfl rfl (by simp only [List.map_toArray, List.map_cons, List.map_nil]; rfl) ?_
  with_reducible refine (PS.Sk.word HP.out).mono ?_
  rintro en x1 ⟨rfl, hp_⟩
  obtain ⟨c1, ec_⟩ : ∃ z, z = c0.wordS := ⟨_, rfl⟩
  rw [← ec_] at hp_
  have Ec1 := Aside0.mk ec_
  clear ec_
  obtain ⟨kaddr, faddr⟩ := PS.Sk.at_addr hp_
  have n0_ := Aside0.mk hp_
  clear HP hp_
  have HP := n0_
  clear n0_
  refine ⟨_, rfl, ?_⟩
  refine hK.out _ _ ⟨(PS.Sk.cell HP.out F5.out F5g F5m), (PS.Sk.cell HP.out F4.out F4g F4m)⟩ (fun hHeld => ?_)
  clear hK K
  refine norm_ (a' := ?_) ?_ ?_
  rotate_left
  · show Act.put _ (some 4) _ = _
    simp only [Act.put, List.setIfInBounds_toArray, List.set_cons_zero, List.set_cons_succ, i64_w, i32_w]
    rfl
  refine pu_ 3 (some 5) (bm 6 15) HT_ (by as_aux_lemma => kernel_rfl) rfl rfl (fun _ _ _ h => h) (by rfl) (by intro w'; go_simp; with_reducible rfl) (by go_simp; rfl) ?_
  refine pu_ 4 (some 6) (bm 6 31) HT_ (by as_aux_lemma => kernel_rfl) rfl rfl (fun _ _ _ h => h) (by rfl) (by intro w'; go_simp; with_reducible rfl) (by go_simp; rfl) ?_
  refine one_ (i := 5) (N := none) (bm 6 63) rfl rfl (one_of HT_.out (by as_aux_lemma => kernel_rfl)) (by as_aux_lemma => decide) (fun K hK => ?_)
  refine skip_ (w1 := ?_) (by rfl) rfl ?_ ?_
  rotate_left
  · go_simp
    rfl
  have hp_ := HP.out.put_addr ⟨l0, h0⟩
  have n0_ := Aside0.mk hp_
  clear HP hp_
  have HP := n0_
  clear n0_
  refine hK.out _ _ ⟨(PS.Sk.cell HP.out F5.out F5g F5m), (PS.Sk.cell HP.out F4.out F4g F4m)⟩ (fun hHeld => ?_)
  clear hK K
  refine done_ (done_of HT_.out (by as_aux_lemma => kernel_rfl)) ?_
  go_wp2
  have eq_ : placeR m c0 = (c1, { m with addr := c0.wordV }) := by
    rw [Ec1.out]
    rfl
  rw [eq_]
  exact bodyPost_end (results_none rfl _ _ _) rfl (⟨rfl, HP.out⟩)
theorem countR_bd {c : Cu} (h : c.good) (n : Int) : ∀ x ∈ (countR n c).2, 0 ≤ x ∧ x < 65536 := Cu.wordsV_bd (c := (c.byteS.need (c.byteV == 2 * n) 5)) (Cu.good_need (Cu.good_byteS h) _ _) n
def many.T2 : Bool × List (List Nat × List Nat) := (true, [([], []), ([], []), ([], []), ([2], [2]), ([3], [3]), ([4], [4]), ([5], [5]), ([1, 6], [1, 6]), ([0, 0, 1, 2, 3, 4, 5, 6, 7], [0]), ([8, 0, 1, 2, 3, 4, 5, 6, 7], [8]), ([9, 7, 7, 0, 1, 2, 3, 4, 5, 6, 7], [7, 9])])
def many.B2 : List Nat := [0, 0, 0, 4, 12, 28, 60, 126, 255, 511, 1023]
theorem many.tab2 : rtab .any (opsOf Try.f45 2) = many.T2 := by kernel_rfl
theorem many.bits2 : waitsOk many.T2.2 many.B2 = true := by kernel_rfl
theorem many_1 {wb w0 w : World} {gr g gm : Nat} {c0 : Cu} {m : Msg} (h : PS.Sk wb w0 gr g gm w c0 m) {a5 : Nat} (f5 : wb.cell? ⟨a5, 0, none⟩ = some (.pointer (some ⟨g, 0, none⟩))) (F5g : a5 ≠ g) (F5m : a5 ≠ gm) {a4 : Nat} (f4 : wb.cell? ⟨a4, 0, none⟩ = some (.pointer (some ⟨gm, 0, none⟩))) (F4g : a4 ≠ g) (F4m : a4 ≠ gm) {a7 : Nat} (f7 : wb.cell? ⟨a7, 0, none⟩ = some (.func (.func 36) #[] #[.pointer (some ⟨a5, 0, none⟩), .pointer (some ⟨a4, 0, none⟩)])) (F7g : a7 ≠ g) (F7m : a7 ≠ gm) {a8 : Nat} (f8 : wb.cell? ⟨a8, 0, none⟩ = some (.bool true)) (F8g : a8 ≠ g) (F8m : a8 ≠ gm) :
    Calls Try.prog 45 #[.pointer (some ⟨a7, 0, none⟩), .pointer (some ⟨a8, 0, none⟩), .pointer (some ⟨a5, 0, none⟩), .pointer (some ⟨a4, 0, none⟩)] w fun en w' => en = .returned (.tuple #[]) ∧ PS.Sk wb w0 gr g gm w' (manyR m c0).1 (manyR m c0).2 := by
  have HP := Aside0.mk h
  have F5 := Aside0.mk f5
  have F4 := Aside0.mk f4
  have F7 := Aside0.mk f7
  have F8 := Aside0.mk f8
  clear h f5 f4 f7 f8
  go_enter Try.func45, Try.ntmps45
  have wF5 := F5
  have wF4 := F4
  have qF7 := PS.Sk.cell HP.out F7.out F7g F7m
  go_upto_region 1 with (first | (go_at_call 36; (with_reducible refine (where_any HP.out wF5.out F5g F5m wF4.out F4g F4m 123).mono ?_); rintro en x80 ⟨rfl, hp_⟩; obtain ⟨z1, ez_⟩ : ∃ z, z = whereR 123 m c0 := ⟨_, rfl⟩; rw [← ez_] at hp_; obtain ⟨c1, m1⟩ := z1; have EZ := Aside0.mk ez_; clear ez_; have n0_ := Aside0.mk hp_; clear HP hp_; have HP := n0_; clear n0_))
  replace HP : Aside0 (PS.Sk wb w0 gr g gm x80 c1 m1) := HP
  clear qF7
  have qF8 := PS.Sk.cell HP.out F8.out F8g F8m
  go_upto_region 2 with (fail)
  clear qF8
  have n0_ := Aside0.mk (PS.Sk.below HP.out (below_drew (Below.refl _ _)))
  clear HP
  have HP := n0_
  clear n0_
  obtain ⟨bc0, bc1⟩ := (goodM_num (PS.Sk.msg HP.out)).1.2.2.2.1
  have wk := wrap64_id (x := m1.count) (by omega) (by omega)
  have wkb : IntKind.i64.wrap (m1.count) = m1.count := by rw [i64_w]; exact wk
  have HBW0 := Aside0.mk (countR_bd (PS.Sk.good HP.out) m1.count)
  refine start_ (n := 11) (S := fun w' => w'.cell? ⟨a5, 0, none⟩ = some (.pointer (some ⟨g, 0, none⟩)) ∧ w'.cell? ⟨a4, 0, none⟩ = some (.pointer (some ⟨gm, 0, none⟩)) ∧ w'.cell? ⟨gm, 3, none⟩ = some (.int .u16 m1.count)) (ds := []) (bm 11 0) (by as_aux_lemma => kernel_rfl) rfl (by as_aux_lemma => kernel_rfl) ⟨(PS.Sk.cell HP.out F5.out F5g F5m), (PS.Sk.cell HP.out F4.out F4g F4m), (PS.Sk.at_count HP.out).1⟩ (fun hHeld => ?_)
  refine with_tabW many.tab2 many.bits2 (fun HT_ HW_ => ?_)
  refine tk_ 0 (some 7) (bm 11 1) HT_ HW_ hHeld (by as_aux_lemma => kernel_rfl) rfl rfl (fun _ _ _ h => h) (by rfl) (by rintro w' ⟨s0, s1, s2⟩; go_simp; with_reducible rfl) (by go_simp; rfl) ?_
  refine tk_ 1 (some 8) (bm 11 3) HT_ HW_ hHeld (by as_aux_lemma => kernel_rfl) rfl rfl (fun _ _ _ h => h) (by rfl) (by rintro w' ⟨s0, s1, s2⟩; go_simp; with_reducible rfl) (by go_simp; rfl) ?_
  refine tk_ 2 (some 9) (bm 11 7) HT_ HW_ hHeld (by as_aux_lemma => kernel_rfl) rfl rfl (fun _ _ _ h => h) (by rfl) (by rintro w' ⟨s0, s1, s2⟩; go_simp; with_reducible rfl) (by go_simp; rfl) ?_
  refine pu_ 3 (some 10) (bm 11 15) HT_ (by as_aux_lemma => kernel_rfl) rfl rfl (fun _ _ _ h => h) (by rfl) (by intro w'; go_simp; with_reducible rfl) (by go_simp; rfl) ?_
  refine pu_ 4 (some 11) (bm 11 31) HT_ (by as_aux_lemma => kernel_rfl) rfl rfl (fun _ _ _ h => h) (by rfl) (by intro w'; go_simp; with_reducible rfl) (by go_simp; rfl) ?_
  refine tk_ 5 (some 12) (bm 11 63) HT_ HW_ hHeld (by as_aux_lemma => kernel_rfl) rfl rfl (fun _ _ _ h => h) (by rfl) (by rintro w' ⟨s0, s1, s2⟩; go_simp; with_reducible rfl) (by go_simp; rfl) ?_
  refine pu_ 6 (some 13) (bm 11 127) HT_ (by as_aux_lemma => kernel_rfl) rfl rfl (fun _ _ _ h => h) (by rfl) (by intro w'; go_simp; with_reducible rfl) (by go_simp; rfl) ?_
  refine one_ (i := 7) (N := some 14) (bm 11 255) rfl rfl (one_of HT_.out (by as_aux_lemma => kernel_rfl)) (by as_aux_lemma => decide) (fun K hK => ?_)
  refine goes_ Try.func46 (by as_aux_lemma => kernel_rfl) rfl #[.pointer (some ⟨g, 0, none⟩), .int .i64 (m1.count)] (by rfl) rfl rfl (by simp only [List.map_toArray, List.map_cons, List.map_nil]; rfl) ?_
  with_reducible refine (counted_any HP.out ⟨bc0, bc1⟩).mono ?_
  rintro en x95 ⟨A5, n5, rfl, hz_, hr_, hp_⟩
  obtain ⟨z1, ez_⟩ : ∃ z, z = countR (m1.count) c1 := ⟨_, rfl⟩
  rw [← ez_] at hp_ hr_ hz_ ⊢
  obtain ⟨c2, lw⟩ := z1
  have HBW := Aside0.mk (show ∀ x ∈ lw, 0 ≤ x ∧ x < 65536 from by have := HBW0.out; rw [← ez_] at this; exact this)
  have EL := Aside0.mk ez_
  clear ez_
  replace hp_ : PS.Sk _ w0 gr g gm _ c2 _ := hp_
  have R5 := Aside0.mk (show ∀ W', Kept _ W' (fun k => k = g ∨ k = gm ∨ k = gr) → Kd.C (Kd.int .u16) W' A5 lw.length lw from hr_)
  have R5z := Aside0.mk (show lw.length ≤ n5 from hz_)
  obtain ⟨Aw, nw, kw, fw⟩ := PS.Sk.at_words hp_
  have n0_ := Aside0.mk (hp_)
  clear HP
  have HP := n0_
  clear n0_
  clear hp_ hr_ hz_
  refine ⟨_, rfl, ?_⟩
  refine hK.out _ _ ⟨(PS.Sk.cell HP.out F5.out F5g F5m), (PS.Sk.cell HP.out F4.out F4g F4m), (PS.Sk.at_count HP.out).1⟩ (fun hHeld => ?_)
  clear hK K
  refine norm_ (a' := ?_) ?_ ?_
  rotate_left
  · show Act.put _ (some 14) _ = _
    simp only [Act.put, List.setIfInBounds_toArray, List.set_cons_zero, List.set_cons_succ, i64_w, i32_w]
    rfl
  refine pu_ 8 (some 15) (bm 11 511) HT_ (by as_aux_lemma => kernel_rfl) rfl rfl (fun _ _ _ h => h) (by rfl) (by intro w'; go_simp; with_reducible rfl) (by go_simp; rfl) ?_
  refine pu_ 9 (some 16) (bm 11 1023) HT_ (by as_aux_lemma => kernel_rfl) rfl rfl (fun _ _ _ h => h) (by rfl) (by intro w'; go_simp; with_reducible rfl) (by go_simp; rfl) ?_
  refine one_ (i := 10) (N := none) (bm 11 2047) rfl rfl (one_of HT_.out (by as_aux_lemma => kernel_rfl)) (by as_aux_lemma => decide) (fun K hK => ?_)
  refine skip_ (w1 := ?_) (by rfl) rfl ?_ ?_
  rotate_left
  · go_simp
    rfl
  have hp_ := HP.out.put_words R5z.out HBW.out R5.out
  have n0_ := Aside0.mk hp_
  clear HP hp_
  have HP := n0_
  clear n0_
  refine hK.out _ _ ⟨(PS.Sk.cell HP.out F5.out F5g F5m), (PS.Sk.cell HP.out F4.out F4g F4m), (PS.Sk.at_count HP.out).1⟩ (fun hHeld => ?_)
  clear hK K
  refine done_ (done_of HT_.out (by as_aux_lemma => kernel_rfl)) ?_
  go_wp2
  have eq_ : manyR m c0 = (c2, { m1 with words := lw }) := by
    have e1 : manyR m c0 = manyK m1 c1 := by
      show manyK (whereR 123 m c0).2 (whereR 123 m c0).1 = _
      rw [← EZ.out]
    rw [e1]
    show ((countR m1.count c1).1, ({ m1 with words := (countR m1.count c1).2 } : Msg)) = _
    rw [← EL.out]
  rw [eq_]
  exact bodyPost_end (results_none rfl _ _ _) rfl (⟨rfl, HP.out⟩)
theorem many_0 {wb w0 w : World} {gr g gm : Nat} {c0 : Cu} {m : Msg} (h : PS.Sk wb w0 gr g gm w c0 m) {a5 : Nat} (f5 : wb.cell? ⟨a5, 0, none⟩ = some (.pointer (some ⟨g, 0, none⟩))) (F5g : a5 ≠ g) (F5m : a5 ≠ gm) {a4 : Nat} (f4 : wb.cell? ⟨a4, 0, none⟩ = some (.pointer (some ⟨gm, 0, none⟩))) (F4g : a4 ≠ g) (F4m : a4 ≠ gm) {a7 : Nat} (f7 : wb.cell? ⟨a7, 0, none⟩ = some (.func (.func 36) #[] #[.pointer (some ⟨a5, 0, none⟩), .pointer (some ⟨a4, 0, none⟩)])) (F7g : a7 ≠ g) (F7m : a7 ≠ gm) {a8 : Nat} (f8 : wb.cell? ⟨a8, 0, none⟩ = some (.bool false)) (F8g : a8 ≠ g) (F8m : a8 ≠ gm) :
    Calls Try.prog 45 #[.pointer (some ⟨a7, 0, none⟩), .pointer (some ⟨a8, 0, none⟩), .pointer (some ⟨a5, 0, none⟩), .pointer (some ⟨a4, 0, none⟩)] w fun en w' => en = .returned (.tuple #[]) ∧ PS.Sk wb w0 gr g gm w' (whereR 123 m c0).1 (whereR 123 m c0).2 := by
  have HP := Aside0.mk h
  have F5 := Aside0.mk f5
  have F4 := Aside0.mk f4
  have F7 := Aside0.mk f7
  have F8 := Aside0.mk f8
  clear h f5 f4 f7 f8
  go_enter Try.func45, Try.ntmps45
  have wF5 := F5
  have wF4 := F4
  have qF7 := PS.Sk.cell HP.out F7.out F7g F7m
  go_upto_region 1 with (first | (go_at_call 36; (with_reducible refine (where_any HP.out wF5.out F5g F5m wF4.out F4g F4m 123).mono ?_); rintro en x80 ⟨rfl, hp_⟩; obtain ⟨z1, ez_⟩ : ∃ z, z = whereR 123 m c0 := ⟨_, rfl⟩; rw [← ez_] at hp_; obtain ⟨c1, m1⟩ := z1; have EZ := Aside0.mk ez_; clear ez_; have n0_ := Aside0.mk hp_; clear HP hp_; have HP := n0_; clear n0_))
  replace HP : Aside0 (PS.Sk wb w0 gr g gm x80 c1 m1) := HP
  clear qF7
  have qF8 := PS.Sk.cell HP.out F8.out F8g F8m
  go_wp2
  have eq_ : whereR 123 m c0 = (c1, m1) := EZ.out.symm
  rw [eq_]
  exact bodyPost_end (results_none rfl _ _ _) rfl (⟨rfl, HP.out⟩)
def both.T1 : Bool × List (List Nat × List Nat) := (true, [([], []), ([], []), ([1], [1]), ([0, 0, 1, 2], [0]), ([3, 0, 1, 2], [3]), ([4, 2, 2, 0, 1, 2], [2, 4])])
def both.B1 : List Nat := [0, 0, 2, 7, 15, 31]
theorem both.tab1 : rtab .any (opsOf Try.f48 1) = both.T1 := by kernel_rfl
theorem both.bits1 : waitsOk both.T1.2 both.B1 = true := by kernel_rfl
def both.T2 : Bool × List (List Nat × List Nat) := (true, [([], []), ([], []), ([], []), ([], []), ([3], [3]), ([4], [4]), ([5], [5]), ([2, 6], [2, 6]), ([1, 7, 7], [1, 7]), ([0, 0, 1, 2, 3, 4, 5, 6, 7, 8], [0]), ([9, 0, 1, 2, 3, 4, 5, 6, 7, 8], [9]), ([10, 8, 8, 0, 1, 2, 3, 4, 5, 6, 7, 8], [8, 10])])
def both.B2 : List Nat := [0, 0, 0, 0, 8, 24, 56, 124, 254, 511, 1023, 2047]
theorem both.tab2 : rtab .any (opsOf Try.f48 2) = both.T2 := by kernel_rfl
theorem both.bits2 : waitsOk both.T2.2 both.B2 = true := by kernel_rfl
theorem both_any {wb w0 w : World} {gr g gm : Nat} {c0 : Cu} {m : Msg} (h : PS.Sk wb w0 gr g gm w c0 m) {a5 : Nat} (f5 : wb.cell? ⟨a5, 0, none⟩ = some (.pointer (some ⟨g, 0, none⟩))) (F5g : a5 ≠ g) (F5m : a5 ≠ gm) {a4 : Nat} (f4 : wb.cell? ⟨a4, 0, none⟩ = some (.pointer (some ⟨gm, 0, none⟩))) (F4g : a4 ≠ g) (F4m : a4 ≠ gm) {a7 : Nat} (f7 : wb.cell? ⟨a7, 0, none⟩ = some (.func (.func 36) #[] #[.pointer (some ⟨a5, 0, none⟩), .pointer (some ⟨a4, 0, none⟩)])) (F7g : a7 ≠ g) (F7m : a7 ≠ gm) :
    Calls Try.prog 48 #[.pointer (some ⟨a7, 0, none⟩), .pointer (some ⟨a5, 0, none⟩), .pointer (some ⟨a4, 0, none⟩)] w fun en w' => en = .returned (.tuple #[]) ∧ PS.Sk wb w0 gr g gm w' (bothR m c0).1 (bothR m c0).2 := by
  have HP := Aside0.mk h
  have F5 := Aside0.mk f5
  have F4 := Aside0.mk f4
  have F7 := Aside0.mk f7
  clear h f5 f4 f7
  go_enter Try.func48, Try.ntmps48
  have wF5 := F5
  have wF4 := F4
  have qF7 := PS.Sk.cell HP.out F7.out F7g F7m
  go_upto_region 1 with (first | (go_at_call 36; (with_reducible refine (where_any HP.out wF5.out F5g F5m wF4.out F4g F4m 125).mono ?_); rintro en x80 ⟨rfl, hp_⟩; obtain ⟨z1, ez_⟩ : ∃ z, z = whereR 125 m c0 := ⟨_, rfl⟩; rw [← ez_] at hp_; obtain ⟨c1, m1⟩ := z1; have EZ := Aside0.mk ez_; clear ez_; have n0_ := Aside0.mk hp_; clear HP hp_; have HP := n0_; clear n0_))
  replace HP : Aside0 (PS.Sk wb w0 gr g gm x80 c1 m1) := HP
  clear qF7
  have n0_ := Aside0.mk (PS.Sk.below HP.out (below_drew (Below.refl _ _)))
  clear HP
  have HP := n0_
  clear n0_
  obtain ⟨l1, h1⟩ := Cu.wordV_bd (PS.Sk.good HP.out)
  refine start_ (n := 6) (S := fun w' => w'.cell? ⟨a5, 0, none⟩ = some (.pointer (some ⟨g, 0, none⟩)) ∧ w'.cell? ⟨a4, 0, none⟩ = some (.pointer (some ⟨gm, 0, none⟩))) (ds := []) (bm 6 0) (by as_aux_lemma => kernel_rfl) rfl (by as_aux_lemma => kernel_rfl) ⟨(PS.Sk.cell HP.out F5.out F5g F5m), (PS.Sk.cell HP.out F4.out F4g F4m)⟩ (fun hHeld => ?_)
  refine with_tabW both.tab1 both.bits1 (fun HT_ HW_ => ?_)
  refine tk_ 0 (some 5) (bm 6 1) HT_ HW_ hHeld (by as_aux_lemma => kernel_rfl) rfl rfl (fun _ _ _ h => h) (by rfl) (by rintro w' ⟨s0, s1⟩; go_simp; with_reducible rfl) (by go_simp; rfl) ?_
  refine tk_ 1 (some 6) (bm 6 3) HT_ HW_ hHeld (by as_aux_lemma => kernel_rfl) rfl rfl (fun _ _ _ h => h) (by rfl) (by rintro w' ⟨s0, s1⟩; go_simp; with_reducible rfl) (by go_simp; rfl) ?_
  refine one_ (i := 2) (N := some 7) (bm 6 7) rfl rfl (one_of HT_.out (by as_aux_lemma => kernel_rfl)) (by as_aux_lemma => decide) (fun K hK => ?_)
  refine goes_ Try.func37 (by as_aux_lemma => kernel_rfl) rfl #[.pointer (some ⟨g, 0, none⟩)] (by rfl) rfl rfl (by simp only [List.map_toArray, List.map_cons, List.map_nil]; rfl) ?_
  with_reducible refine (PS.Sk.word HP.out).mono ?_
  rintro en x1 ⟨rfl, hp_⟩
  obtain ⟨c2, ec_⟩ : ∃ z, z = c1.wordS := ⟨_, rfl⟩
  rw [← ec_] at hp_
  have Ec2 := Aside0.mk ec_
  clear ec_
  obtain ⟨kaddr2, faddr2⟩ := PS.Sk.at_addr2 hp_
  have n0_ := Aside0.mk hp_
  clear HP hp_
  have HP := n0_
  clear n0_
  refine ⟨_, rfl, ?_⟩
  refine hK.out _ _ ⟨(PS.Sk.cell HP.out F5.out F5g F5m), (PS.Sk.cell HP.out F4.out F4g F4m)⟩ (fun hHeld => ?_)
  clear hK K
  refine norm_ (a' := ?_) ?_ ?_
  rotate_left
  · show Act.put _ (some 7) _ = _
    simp only [Act.put, List.setIfInBounds_toArray, List.set_cons_zero, List.set_cons_succ, i64_w, i32_w]
    rfl
  refine pu_ 3 (some 8) (bm 6 15) HT_ (by as_aux_lemma => kernel_rfl) rfl rfl (fun _ _ _ h => h) (by rfl) (by intro w'; go_simp; with_reducible rfl) (by go_simp; rfl) ?_
  refine pu_ 4 (some 9) (bm 6 31) HT_ (by as_aux_lemma => kernel_rfl) rfl rfl (fun _ _ _ h => h) (by rfl) (by intro w'; go_simp; with_reducible rfl) (by go_simp; rfl) ?_
  refine one_ (i := 5) (N := none) (bm 6 63) rfl rfl (one_of HT_.out (by as_aux_lemma => kernel_rfl)) (by as_aux_lemma => decide) (fun K hK => ?_)
  refine skip_ (w1 := ?_) (by rfl) rfl ?_ ?_
  rotate_left
  · go_simp
    rfl
  have hp_ := HP.out.put_addr2 ⟨l1, h1⟩
  have n0_ := Aside0.mk hp_
  clear HP hp_
  have HP := n0_
  clear n0_
  refine hK.out _ _ ⟨(PS.Sk.cell HP.out F5.out F5g F5m), (PS.Sk.cell HP.out F4.out F4g F4m)⟩ (fun hHeld => ?_)
  clear hK K
  refine done_ (done_of HT_.out (by as_aux_lemma => kernel_rfl)) ?_
  clear kaddr2 faddr2
  go_upto_region 2 with (fail)
  have n0_ := Aside0.mk (PS.Sk.below HP.out (below_drew (Below.refl _ _)))
  clear HP
  have HP := n0_
  clear n0_
  obtain ⟨ln, hn⟩ := spanR_bd (PS.Sk.good HP.out) 121 c1.wordV
  refine start_ (n := 12) (S := fun w' => w'.cell? ⟨a5, 0, none⟩ = some (.pointer (some ⟨g, 0, none⟩)) ∧ w'.cell? ⟨a4, 0, none⟩ = some (.pointer (some ⟨gm, 0, none⟩)) ∧ w'.cell? ⟨gm, 7, none⟩ = some (.int .u16 c1.wordV)) (ds := []) (bm 12 0) (by as_aux_lemma => kernel_rfl) rfl (by as_aux_lemma => kernel_rfl) ⟨(PS.Sk.cell HP.out F5.out F5g F5m), (PS.Sk.cell HP.out F4.out F4g F4m), (PS.Sk.at_addr2 HP.out).1⟩ (fun hHeld => ?_)
  refine with_tabW both.tab2 both.bits2 (fun HT_ HW_ => ?_)
  refine tk_ 0 (some 10) (bm 12 1) HT_ HW_ hHeld (by as_aux_lemma => kernel_rfl) rfl rfl (fun _ _ _ h => h) (by rfl) (by rintro w' ⟨s0, s1, s2⟩; go_simp; with_reducible rfl) (by go_simp; rfl) ?_
  refine tk_ 1 (some 11) (bm 12 3) HT_ HW_ hHeld (by as_aux_lemma => kernel_rfl) rfl rfl (fun _ _ _ h => h) (by rfl) (by rintro w' ⟨s0, s1, s2⟩; go_simp; with_reducible rfl) (by go_simp; rfl) ?_
  refine tk_ 2 (some 12) (bm 12 7) HT_ HW_ hHeld (by as_aux_lemma => kernel_rfl) rfl rfl (fun _ _ _ h => h) (by rfl) (by rintro w' ⟨s0, s1, s2⟩; go_simp; with_reducible rfl) (by go_simp; rfl) ?_
  refine tk_ 3 (some 13) (bm 12 15) HT_ HW_ hHeld (by as_aux_lemma => kernel_rfl) rfl rfl (fun _ _ _ h => h) (by rfl) (by rintro w' ⟨s0, s1, s2⟩; go_simp; with_reducible rfl) (by go_simp; rfl) ?_
  refine pu_ 4 (some 14) (bm 12 31) HT_ (by as_aux_lemma => kernel_rfl) rfl rfl (fun _ _ _ h => h) (by rfl) (by intro w'; go_simp; with_reducible rfl) (by go_simp; rfl) ?_
  refine pu_ 5 (some 15) (bm 12 63) HT_ (by as_aux_lemma => kernel_rfl) rfl rfl (fun _ _ _ h => h) (by rfl) (by intro w'; go_simp; with_reducible rfl) (by go_simp; rfl) ?_
  refine tk_ 6 (some 16) (bm 12 127) HT_ HW_ hHeld (by as_aux_lemma => kernel_rfl) rfl rfl (fun _ _ _ h => h) (by rfl) (by rintro w' ⟨s0, s1, s2⟩; go_simp; with_reducible rfl) (by go_simp; rfl) ?_
  refine one_ (i := 7) (N := some 17) (bm 12 255) rfl rfl (one_of HT_.out (by as_aux_lemma => kernel_rfl)) (by as_aux_lemma => decide) (fun K hK => ?_)
  refine goes_ Try.func38 (by as_aux_lemma => kernel_rfl) rfl #[.pointer (some ⟨g, 0, none⟩), .int .u16 c1.wordV, .int .i64 121] (by rfl) rfl rfl (by simp only [List.map_toArray, List.map_cons, List.map_nil]; rfl) ?_
  with_reducible refine (span_any HP.out ⟨l1, h1⟩ 121).mono ?_
  rintro en x91 ⟨rfl, hp_⟩
  obtain ⟨z1, ez_⟩ : ∃ z, z = spanR 121 c1.wordV c2 := ⟨_, rfl⟩
  rw [← ez_] at hp_ ln hn ⊢
  obtain ⟨c3, n3⟩ := z1
  have ES := Aside0.mk ez_
  clear ez_
  replace hp_ : PS.Sk _ w0 gr g gm _ c3 _ := hp_
  replace ln : 0 ≤ n3 := ln
  replace hn : n3 < 65536 := hn
  have n0_ := Aside0.mk (hp_)
  clear HP
  have HP := n0_
  clear n0_
  clear hp_
  have HBW0 := Aside0.mk (countR_bd (PS.Sk.good HP.out) n3)
  refine ⟨_, rfl, ?_⟩
  refine hK.out _ _ ⟨(PS.Sk.cell HP.out F5.out F5g F5m), (PS.Sk.cell HP.out F4.out F4g F4m), (PS.Sk.at_addr2 HP.out).1⟩ (fun hHeld => ?_)
  clear hK K
  refine norm_ (a' := ?_) ?_ ?_
  rotate_left
  · show Act.put _ (some 17) _ = _
    simp only [Act.put, List.setIfInBounds_toArray, List.set_cons_zero, List.set_cons_succ, i64_w, i32_w]
    rfl
  refine one_ (i := 8) (N := some 18) (bm 12 511) rfl rfl (one_of HT_.out (by as_aux_lemma => kernel_rfl)) (by as_aux_lemma => decide) (fun K hK => ?_)
  refine goes_ Try.func46 (by as_aux_lemma => kernel_rfl) rfl #[.pointer (some ⟨g, 0, none⟩), .int .i64 (n3)] (by rfl) rfl rfl (by simp only [List.map_toArray, List.map_cons, List.map_nil]; rfl) ?_
  with_reducible refine (counted_any HP.out ⟨ln, hn⟩).mono ?_
  rintro en x95 ⟨A5, n5, rfl, hz_, hr_, hp_⟩
  obtain ⟨z1, ez_⟩ : ∃ z, z = countR (n3) c3 := ⟨_, rfl⟩
  rw [← ez_] at hp_ hr_ hz_ ⊢
  obtain ⟨c4, lw⟩ := z1
  have HBW := Aside0.mk (show ∀ x ∈ lw, 0 ≤ x ∧ x < 65536 from by have := HBW0.out; rw [← ez_] at this; exact this)
  have EL := Aside0.mk ez_
  clear ez_
  replace hp_ : PS.Sk _ w0 gr g gm _ c4 _ := hp_
  have R5 := Aside0.mk (show ∀ W', Kept _ W' (fun k => k = g ∨ k = gm ∨ k = gr) → Kd.C (Kd.int .u16) W' A5 lw.length lw from hr_)
  have R5z := Aside0.mk (show lw.length ≤ n5 from hz_)
  obtain ⟨Aw, nw, kw, fw⟩ := PS.Sk.at_words hp_
  have n0_ := Aside0.mk (hp_)
  clear HP
  have HP := n0_
  clear n0_
  clear hp_ hr_ hz_
  refine ⟨_, rfl, ?_⟩
  refine hK.out _ _ ⟨(PS.Sk.cell HP.out F5.out F5g F5m), (PS.Sk.cell HP.out F4.out F4g F4m), (PS.Sk.at_addr2 HP.out).1⟩ (fun hHeld => ?_)
  clear hK K
  refine norm_ (a' := ?_) ?_ ?_
  rotate_left
  · show Act.put _ (some 18) _ = _
    simp only [Act.put, List.setIfInBounds_toArray, List.set_cons_zero, List.set_cons_succ, i64_w, i32_w]
    rfl
  refine pu_ 9 (some 19) (bm 12 1023) HT_ (by as_aux_lemma => kernel_rfl) rfl rfl (fun _ _ _ h => h) (by rfl) (by intro w'; go_simp; with_reducible rfl) (by go_simp; rfl) ?_
  refine pu_ 10 (some 20) (bm 12 2047) HT_ (by as_aux_lemma => kernel_rfl) rfl rfl (fun _ _ _ h => h) (by rfl) (by intro w'; go_simp; with_reducible rfl) (by go_simp; rfl) ?_
  refine one_ (i := 11) (N := none) (bm 12 4095) rfl rfl (one_of HT_.out (by as_aux_lemma => kernel_rfl)) (by as_aux_lemma => decide) (fun K hK => ?_)
  refine skip_ (w1 := ?_) (by rfl) rfl ?_ ?_
  rotate_left
  · go_simp
    rfl
  have hp_ := HP.out.put_words R5z.out HBW.out R5.out
  have n0_ := Aside0.mk hp_
  clear HP hp_
  have HP := n0_
  clear n0_
  refine hK.out _ _ ⟨(PS.Sk.cell HP.out F5.out F5g F5m), (PS.Sk.cell HP.out F4.out F4g F4m), (PS.Sk.at_addr2 HP.out).1⟩ (fun hHeld => ?_)
  clear hK K
  refine done_ (done_of HT_.out (by as_aux_lemma => kernel_rfl)) ?_
  go_wp2
  have eq_ : bothR m c0 = (c4, { m1 with addr2 := c1.wordV, words := lw }) := by
    have e1 : bothR m c0 = bothK m1 c1 := by
      show bothK (whereR 125 m c0).2 (whereR 125 m c0).1 = _
      rw [← EZ.out]
    rw [e1]
    show ((countR (spanR 121 c1.wordV c1.wordS).2 (spanR 121 c1.wordV c1.wordS).1).1, ({ m1 with addr2 := c1.wordV, words := (countR (spanR 121 c1.wordV c1.wordS).2 (spanR 121 c1.wordV c1.wordS).1).2 } : Msg)) = _
    rw [← Ec2.out, ← ES.out]
    show ((countR n3 c3).1, ({ m1 with addr2 := c1.wordV, words := (countR n3 c3).2 } : Msg)) = _
    rw [← EL.out]
  rw [eq_]
  exact bodyPost_end (results_none rfl _ _ _) rfl (⟨rfl, HP.out⟩)
def queue.T4 : Bool × List (List Nat × List Nat) := (true, [([], []), ([], []), ([], []), ([1, 2], [1, 2]), ([0, 0, 1, 2, 3], [0]), ([4, 0, 1, 2, 3], [4]), ([5, 3, 3, 0, 1, 2, 3], [3, 5])])
def queue.B4 : List Nat := [0, 0, 0, 6, 15, 31, 63]
theorem queue.tab4 : rtab .any (opsOf Try.f50 4) = queue.T4 := by kernel_rfl
theorem queue.bits4 : waitsOk queue.T4.2 queue.B4 = true := by kernel_rfl
theorem queue_any {wb w0 w : World} {gr g gm : Nat} {c0 : Cu} {m : Msg} (h : PS.Sk wb w0 gr g gm w c0 m) {a5 : Nat} (f5 : wb.cell? ⟨a5, 0, none⟩ = some (.pointer (some ⟨g, 0, none⟩))) (F5g : a5 ≠ g) (F5m : a5 ≠ gm) {a4 : Nat} (f4 : wb.cell? ⟨a4, 0, none⟩ = some (.pointer (some ⟨gm, 0, none⟩))) (F4g : a4 ≠ g) (F4m : a4 ≠ gm) :
    Calls Try.prog 50 #[.pointer (some ⟨a5, 0, none⟩), .pointer (some ⟨a4, 0, none⟩)] w fun en w' => en = .returned (.tuple #[]) ∧ PS.Sk wb w0 gr g gm w' (queueR m c0).1 (queueR m c0).2 := by
  have HP := Aside0.mk h
  have F5 := Aside0.mk f5
  have F4 := Aside0.mk f4
  clear h f5 f4
  go_enter Try.func50, Try.ntmps50
  have qF5 := PS.Sk.cell HP.out F5.out F5g F5m
  go_upto_region 1 with (first | (go_at_call 37; obtain ⟨l0, h0⟩ := Cu.wordV_bd (PS.Sk.good HP.out); (with_reducible refine (PS.Sk.word HP.out).mono ?_); rintro en x1 ⟨rfl, hp_⟩; obtain ⟨c1, ec_⟩ : ∃ z, z = c0.wordS := ⟨_, rfl⟩; rw [← ec_] at hp_; have Ec1 := Aside0.mk ec_; clear ec_; have n0_ := Aside0.mk hp_; clear HP hp_; have HP := n0_; clear n0_))
  have wk := wrap64_id (x := c0.wordV) (by omega) (by omega)
  have wkb : IntKind.i64.wrap (c0.wordV) = c0.wordV := by rw [i64_w]; exact wk
  clear qF5
  have qF5 := PS.Sk.cell HP.out F5.out F5g F5m
  obtain ⟨c2, e_⟩ : ∃ z, z = c1.need (c0.wordV % 2 == 0 && (decide (2 ≤ c0.wordV) && decide (c0.wordV ≤ 64))) 5 := ⟨_, rfl⟩
  have Ec2 := Aside0.mk e_
  clear e_
  go_cut [] from 7 to 20 (fun wx => Aside0 (PS.Sk wb w0 gr g gm wx c2 (m)))
  case first =>
    cases hs0_ : (c0.wordV % 2 == 0) with
    | true =>
      have hs0a_ : (c0.wordV % 2 != 0) = false := by first | exact hs0_ | (rw [bne, hs0_]; rfl) | (have := hs0_; rw [bne] at this; simpa using this)
      have hs0t_ : (Int.tmod c0.wordV 2 == 0) = true := by rw [Int.tmod_eq_emod_of_nonneg (by omega)]; exact hs0_
      cases hs1_ : (decide (2 ≤ c0.wordV)) with
      | true =>
        have hs1a_ : (decide (c0.wordV ≥ 2)) = true := by first | exact hs1_ | (rw [bne, hs1_]; rfl) | (have := hs1_; rw [bne] at this; simpa using this)
        have eb_ : (c0.wordV % 2 == 0 && (decide (2 ≤ c0.wordV) && decide (c0.wordV ≤ 64))) = (decide (c0.wordV ≤ 64)) := by first | (simp only [hs0_, hs1_]; first | rfl | (simp; done)) | (simp [hs0_, hs1_]; done) | (simp only [bne, hs0_, hs1_]; first | rfl | (simp; done))
        have EB_ := Aside0.mk eb_
        clear eb_
        go_wp2_with (first | (go_at_call 42; (with_reducible refine (PS.Sk.need HP.out (decide (c0.wordV ≤ 64)) 5).mono ?_); rintro en x2 ⟨rfl, hp_⟩; have n0_ := Aside0.mk hp_; clear HP hp_; have HP := n0_; clear n0_))
        go_meet
        rw [Ec2.out, EB_.out]
        exact HP
      | false =>
        have hs1a_ : (decide (c0.wordV ≥ 2)) = false := by first | exact hs1_ | (rw [bne, hs1_]; rfl) | (have := hs1_; rw [bne] at this; simpa using this)
        have eb_ : (c0.wordV % 2 == 0 && (decide (2 ≤ c0.wordV) && decide (c0.wordV ≤ 64))) = (false) := by first | (simp only [hs0_, hs1_]; first | rfl | (simp; done)) | (simp [hs0_, hs1_]; done) | (simp only [bne, hs0_, hs1_]; first | rfl | (simp; done))
        have EB_ := Aside0.mk eb_
        clear eb_
        go_wp2_with (first | (go_at_call 42; (with_reducible refine (PS.Sk.need HP.out (false) 5).mono ?_); rintro en x2 ⟨rfl, hp_⟩; have n0_ := Aside0.mk hp_; clear HP hp_; have HP := n0_; clear n0_))
        go_meet
        rw [Ec2.out, EB_.out]
        exact HP
    | false =>
      have hs0a_ : (c0.wordV % 2 != 0) = true := by first | exact hs0_ | (rw [bne, hs0_]; rfl) | (have := hs0_; rw [bne] at this; simpa using this)
      have hs0t_ : (Int.tmod c0.wordV 2 == 0) = false := by rw [Int.tmod_eq_emod_of_nonneg (by omega)]; exact hs0_
      have eb_ : (c0.wordV % 2 == 0 && (decide (2 ≤ c0.wordV) && decide (c0.wordV ≤ 64))) = (false) := by first | (simp only [hs0_]; first | rfl | (simp; done)) | (simp [hs0_]; done) | (simp only [bne, hs0_]; first | rfl | (simp; done))
      have EB_ := Aside0.mk eb_
      clear eb_
      go_wp2_with (first | (go_at_call 42; (with_reducible refine (PS.Sk.need HP.out (false) 5).mono ?_); rintro en x2 ⟨rfl, hp_⟩; have n0_ := Aside0.mk hp_; clear HP hp_; have HP := n0_; clear n0_))
      go_meet
      rw [Ec2.out, EB_.out]
      exact HP
  case rest =>
  clear HP
  have HP := hcut
  clear hcut
  clear qF5
  have qF5 := PS.Sk.cell HP.out F5.out F5g F5m
  go_upto_region 3 with (first | (go_at_call 37; obtain ⟨l2, h2⟩ := Cu.wordV_bd (PS.Sk.good HP.out); (with_reducible refine (PS.Sk.word HP.out).mono ?_); rintro en x3 ⟨rfl, hp_⟩; obtain ⟨c3, ec_⟩ : ∃ z, z = c2.wordS := ⟨_, rfl⟩; rw [← ec_] at hp_; have Ec3 := Aside0.mk ec_; clear ec_; have n0_ := Aside0.mk hp_; clear HP hp_; have HP := n0_; clear n0_))
  have wk2 := wrap64_id (x := c2.wordV) (by omega) (by omega)
  have wk2b : IntKind.i64.wrap (c2.wordV) = c2.wordV := by rw [i64_w]; exact wk2
  have w3 := wrap64_id (x := 2 * c2.wordV) (by omega) (by omega)
  have w4 := wrap64_id (x := 2 + 2 * c2.wordV) (by omega) (by omega)
  clear qF5
  have qF5 := PS.Sk.cell HP.out F5.out F5g F5m
  go_upto_region 4 with (first | (go_at_call 42; (with_reducible refine (PS.Sk.need HP.out (2 + 2 * c2.wordV == c0.wordV) 5).mono ?_); rintro en x4 ⟨rfl, hp_⟩; obtain ⟨c4, ec_⟩ : ∃ z, z = c3.need (2 + 2 * c2.wordV == c0.wordV) 5 := ⟨_, rfl⟩; rw [← ec_] at hp_; have Ec4 := Aside0.mk ec_; clear ec_; have n0_ := Aside0.mk hp_; clear HP hp_; have HP := n0_; clear n0_))
  clear qF5
  have n0_ := Aside0.mk (PS.Sk.below HP.out (below_drew (Below.refl _ _)))
  clear HP
  have HP := n0_
  clear n0_
  have HBY := Aside0.mk (Cu.wordsV_bd (PS.Sk.good HP.out) (c2.wordV))
  refine start_ (n := 7) (S := fun w' => w'.cell? ⟨a5, 0, none⟩ = some (.pointer (some ⟨g, 0, none⟩)) ∧ w'.cell? ⟨a4, 0, none⟩ = some (.pointer (some ⟨gm, 0, none⟩))) (ds := []) (bm 7 0) (by as_aux_lemma => kernel_rfl) rfl (by as_aux_lemma => kernel_rfl) ⟨(PS.Sk.cell HP.out F5.out F5g F5m), (PS.Sk.cell HP.out F4.out F4g F4m)⟩ (fun hHeld => ?_)
  refine with_tabW queue.tab4 queue.bits4 (fun HT_ HW_ => ?_)
  refine pu_ 2 (some 32) (bm 7 4) HT_ (by as_aux_lemma => kernel_rfl) rfl rfl (fun _ _ _ h => h) (by rfl) (by intro w'; go_simp; with_reducible rfl) (by go_simp; rfl) ?_
  refine tk_ 0 (some 30) (bm 7 5) HT_ HW_ hHeld (by as_aux_lemma => kernel_rfl) rfl rfl (fun _ _ _ h => h) (by rfl) (by rintro w' ⟨s0, s1⟩; go_simp; with_reducible rfl) (by go_simp; rfl) ?_
  refine tk_ 1 (some 31) (bm 7 7) HT_ HW_ hHeld (by as_aux_lemma => kernel_rfl) rfl rfl (fun _ _ _ h => h) (by rfl) (by rintro w' ⟨s0, s1⟩; go_simp; with_reducible rfl) (by go_simp; rfl) ?_
  refine one_ (i := 3) (N := some 33) (bm 7 15) rfl rfl (one_of HT_.out (by as_aux_lemma => kernel_rfl)) (by as_aux_lemma => decide) (fun K hK => ?_)
  refine goes_ Try.func43 (by as_aux_lemma => kernel_rfl) rfl #[.pointer (some ⟨g, 0, none⟩), .int .i64 (c2.wordV)] (by rfl) rfl rfl (by simp only [List.map_toArray, List.map_cons, List.map_nil]; rfl) ?_
  with_reducible refine (PS.Sk.words HP.out (c2.wordV)).mono ?_
  rintro en x5 ⟨A5, n5, rfl, hz_, hr_, hp_⟩
  obtain ⟨c5, ec_⟩ : ∃ z, z = c4.wordsS (c2.wordV) := ⟨_, rfl⟩
  rw [← ec_] at hp_
  have Ec5 := Aside0.mk ec_
  clear ec_
  have R5 := Aside0.mk hr_
  have R5z := Aside0.mk hz_
  clear hr_ hz_
  have n0_ := Aside0.mk hp_
  clear HP hp_
  have HP := n0_
  clear n0_
  obtain ⟨Aw, nw, kw, fw⟩ := PS.Sk.at_words HP.out
  refine ⟨_, rfl, ?_⟩
  refine hK.out _ _ ⟨(PS.Sk.cell HP.out F5.out F5g F5m), (PS.Sk.cell HP.out F4.out F4g F4m)⟩ (fun hHeld => ?_)
  clear hK K
  refine norm_ (a' := ?_) ?_ ?_
  rotate_left
  · show Act.put _ (some 33) _ = _
    simp only [Act.put, List.setIfInBounds_toArray, List.set_cons_zero, List.set_cons_succ, i64_w, i32_w]
    rfl
  refine pu_ 4 (some 34) (bm 7 31) HT_ (by as_aux_lemma => kernel_rfl) rfl rfl (fun _ _ _ h => h) (by rfl) (by intro w'; go_simp; with_reducible rfl) (by go_simp; rfl) ?_
  refine pu_ 5 (some 35) (bm 7 63) HT_ (by as_aux_lemma => kernel_rfl) rfl rfl (fun _ _ _ h => h) (by rfl) (by intro w'; go_simp; with_reducible rfl) (by go_simp; rfl) ?_
  refine one_ (i := 6) (N := none) (bm 7 127) rfl rfl (one_of HT_.out (by as_aux_lemma => kernel_rfl)) (by as_aux_lemma => decide) (fun K hK => ?_)
  refine skip_ (w1 := ?_) (by rfl) rfl ?_ ?_
  rotate_left
  · go_simp
    rfl
  have hp_ := HP.out.put_words R5z.out HBY.out R5.out
  have n0_ := Aside0.mk hp_
  clear HP hp_
  have HP := n0_
  clear n0_
  refine hK.out _ _ ⟨(PS.Sk.cell HP.out F5.out F5g F5m), (PS.Sk.cell HP.out F4.out F4g F4m)⟩ (fun hHeld => ?_)
  clear hK K
  refine done_ (done_of HT_.out (by as_aux_lemma => kernel_rfl)) ?_
  go_wp2
  have eq_ : queueR m c0 = (c5, { m with words := c4.wordsV c2.wordV }) := by
    rw [Ec5.out, Ec4.out, Ec3.out, Ec2.out, Ec1.out]
    rfl
  rw [eq_]
  exact bodyPost_end (results_none rfl _ _ _) rfl (⟨rfl, HP.out⟩)
end Go.Proofs.Ytmglilncdffbkaa.Reg
end
