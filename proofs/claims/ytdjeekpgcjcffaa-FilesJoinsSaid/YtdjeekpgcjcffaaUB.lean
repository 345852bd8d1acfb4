/- What the laws of this chapter rest on, part 2: what the functions that they reach answer, each shown once. Conditions: what each theorem states. (Merged by a program of this session, wip/tools/merge.py, out of its own texts and of the words that the kit's print wrote for this seat, cut to those that are used.) -/
import Derived.ChangeKeysEq
import Derived.Deep.MidRow
import Derived.Deep.CutRange
import Derived.Test.YtdjeekpgcjcffaaUA
set_option linter.unusedVariables false
set_option linter.unusedSimpArgs false
set_option maxHeartbeats 16000000
set_option maxRecDepth 100000
section
namespace Go.Proofs.Ytdjeekpgcjcffaa.RCur
open Go.RowKit Go.Proofs.Ytdjeekpgcjcffaa.P Go.Proofs.Ytdjeekpgcjcffaa.E Go.Proofs.Ytdjeekpgcjcffaa.Cur Go.Proofs.YtdjeekpgcjcffaaW.PrintWords Go.Proofs.YtdjeekpgcjcffaaW.PrintLast Go.Proofs.YtdjeekpgcjcffaaW.PrintMore
def RAt (hi : Nat) (w : World) (g : Nat) (xs : List Int) (n : Nat) (s : Bool) (e : Int) : Prop :=
  hi ≤ g ∧ n ≤ xs.length ∧ xs.length ≤ 1000000 ∧ ∃ A c, w.heap[g]? = some (.cells #[.slice A xs.length c, .int .i64 n, .bool s, .int .i64 e] 78 (0, 0)) ∧ xs.length ≤ c ∧ Row 0 hi w A xs
theorem cells4 {w : World} {g : Nat} {t : TypeId} {v0 v1 v2 v3 : Value} (h : w.heap[g]? = some (.cells #[v0, v1, v2, v3] t (0, 0))) : (w.cell? ⟨g, 0, none⟩ = some v0 ∧ w.cell? ⟨g, 1, none⟩ = some v1 ∧ w.cell? ⟨g, 2, none⟩ = some v2 ∧ w.cell? ⟨g, 3, none⟩ = some v3) ∧ w.frozen? ⟨g, 0, none⟩ = false ∧ w.frozen? ⟨g, 1, none⟩ = false ∧ w.frozen? ⟨g, 2, none⟩ = false ∧ w.frozen? ⟨g, 3, none⟩ = false :=
  ⟨⟨blk_cell h 0, blk_cell h 1, blk_cell h 2, blk_cell h 3⟩, blk_frozen h 0, blk_frozen h 1, blk_frozen h 2, blk_frozen h 3⟩
def bm (n m : Nat) : Array Bool := ⟨(List.range n).map fun i => m.testBit i⟩
theorem need_set (hi g : Nat) (xs : List Int) (n : Nat) (s : Bool) (f : Int) (w : World) (h : RAt hi w g xs n s 0) :
    Calls Try.prog 46 #[.pointer (some ⟨g, 0, none⟩), .bool false, .int .i64 f] w fun en w' => en = .returned (.tuple #[]) ∧ RAt hi w' g xs n s f ∧ Upd g w w' := by
  obtain ⟨h1, hn, hx, A, c, h2, h3, h4⟩ := h
  obtain ⟨⟨k0, k1, k2, k3⟩, f0, f1, f2, f3⟩ := cells4 h2
  have H2 := Aside0.mk h2
  have H4 := Aside0.mk h4
  clear h2 h4
  have hu1 := Try.underlying78
  go_enter Try.func46, Try.ntmps46
  go_wp2
  first
  | exact bodyPost_end (results_none rfl _ _ _) rfl ⟨rfl, ⟨h1, hn, hx, A, c, blk_put H2.out 3 _ rfl, h3, H4.out.on ((Upd.set w g 3 _).kept.mono (fun k hk => .inr (by omega)))⟩, Upd.set _ _ _ _⟩
  | exact bodyPost_ret (results_none rfl _ _ _) rfl ⟨rfl, ⟨h1, hn, hx, A, c, blk_put H2.out 3 _ rfl, h3, H4.out.on ((Upd.set w g 3 _).kept.mono (fun k hk => .inr (by omega)))⟩, Upd.set _ _ _ _⟩
theorem need_keep (hi g : Nat) (xs : List Int) (n : Nat) (s : Bool) (e : Int) (w : World) (h : RAt hi w g xs n s e) (f : Int) (he : e ≠ 0) :
    Calls Try.prog 46 #[.pointer (some ⟨g, 0, none⟩), .bool false, .int .i64 f] w fun en w' => en = .returned (.tuple #[]) ∧ RAt hi w' g xs n s e ∧ Upd g w w' := by
  have e1 : (e == 0) = false := beq_eq_false_iff_ne.2 he
  have e2 : (e != 0) = true := bne_iff_ne.2 he
  clear he
  obtain ⟨h1, hn, hx, A, c, h2, h3, h4⟩ := h
  obtain ⟨⟨k0, k1, k2, k3⟩, f0, f1, f2, f3⟩ := cells4 h2
  have H2 := Aside0.mk h2
  have H4 := Aside0.mk h4
  clear h2 h4
  have hu1 := Try.underlying78
  go_enter Try.func46, Try.ntmps46
  go_wp2
  exact bodyPost_ret (results_none rfl _ _ _) rfl ⟨rfl, ⟨h1, hn, hx, A, c, H2.out, h3, H4.out⟩, Upd.refl _ _⟩
theorem need_any (hi g : Nat) (xs : List Int) (n : Nat) (s : Bool) (e : Int) (w : World) (h : RAt hi w g xs n s e) (f : Int) :
    Calls Try.prog 46 #[.pointer (some ⟨g, 0, none⟩), .bool false, .int .i64 f] w fun en w' => en = .returned (.tuple #[]) ∧ RAt hi w' g xs n s (fstE e f) ∧ Upd g w w' := by
  by_cases he : e = 0
  · subst he
    exact need_set hi g xs n s f w h
  · have := need_keep hi g xs n s e w h f he
    rw [show fstE e f = e from if_neg he]
    exact this
def rbytes.T1 : Bool × List (List Nat × List Nat) := (true, [([], []), ([0], [0]), ([1], [1]), ([2], [2]), ([3], [3]), ([4], [4]), ([5, 4], [4, 5]), ([4, 6], [4, 6]), ([7, 4], [7]), ([8], [8]), ([8], [8]), ([10, 8], [8, 10]), ([11, 8], [8, 11]), ([12, 8], [8, 12]), ([13, 8], [8, 13]), ([8], [8]), ([15, 8], [8, 15]), ([16, 8], [8, 16]), ([17, 8], [8, 17]), ([14, 18, 8], [8, 14, 18]), ([9, 19, 8], [8, 9, 19]), ([8, 20], [8, 20])])
def rbytes.B1 : List Nat := [0, 1, 3, 7, 15, 31, 63, 127, 255, 511, 511, 1535, 3583, 7679, 15871, 511, 33279, 98815, 229887, 523775, 1048575, 2097151]
theorem rbytes.tab1 : rtab .any (opsOf Try.f60 1) = rbytes.T1 := by kernel_rfl
theorem rbytes.bits1 : waitsOk rbytes.T1.2 rbytes.B1 = true := by kernel_rfl
def rbytes.T7 : Bool × List (List Nat × List Nat) := (true, [([], []), ([0], [0]), ([1], [1]), ([2], [2]), ([], []), ([4], [4]), ([5], [5]), ([6], [6]), ([], []), ([7, 8], [7, 8]), ([], []), ([10], [10]), ([11], [11]), ([12], [12]), ([3, 9, 13], [3, 9, 13]), ([14, 0, 1, 2, 3, 4, 5, 6, 7, 8, 9, 10, 11, 12, 13, 14], [14])])
def rbytes.B7 : List Nat := [0, 1, 3, 7, 0, 16, 48, 112, 0, 496, 0, 1024, 3072, 7168, 16383, 32767]
theorem rbytes.tab7 : rtab .any (opsOf Try.f60 7) = rbytes.T7 := by kernel_rfl
theorem rbytes.bits7 : waitsOk rbytes.T7.2 rbytes.B7 = true := by kernel_rfl
theorem bytes_s (hi g : Nat) (xs : List Int) (n : Nat) (e m : Int) (w : World) (h : RAt hi w g xs n true e)  :
    Calls Try.prog 60 #[.pointer (some ⟨g, 0, none⟩), .int .i64 m] w fun en w' => en = .returned (.slice none 0 0) ∧ RAt hi w' g xs xs.length true (fstE e 2) ∧ Upd g w w' := by
  obtain ⟨h1, hn, hx, A, c, h2, h3, h4⟩ := h
  obtain ⟨⟨k0, k1, k2, k3⟩, f0, f1, f2, f3⟩ := cells4 h2
  have H2 := Aside0.mk h2
  have H4 := Aside0.mk h4
  clear h2 h4
  have hu1 := Try.underlying78
  have c1 : wrap64 ((xs.length : Int) - (n : Int)) = (xs.length : Int) - (n : Int) := wrap64_id (by omega) (by omega)
  have FIN := Aside0.mk (fun (W : World) (hW : RAt hi W g xs xs.length true e) => need_any hi g xs xs.length true e W hW 2)
  go_enter Try.func60, Try.ntmps60
  go_wp2
  refine start_ (n := 22) (S := fun w' => w'.cell? ⟨g, 0, none⟩ = some (.slice A xs.length c) ∧ w'.cell? ⟨g, 1, none⟩ = some (.int .i64 n) ∧ w'.cell? ⟨g, 2, none⟩ = some (.bool true) ∧ Aside0 (w'.heap[g]? = some (.cells #[.slice A xs.length c, .int .i64 n, .bool true, .int .i64 e] 78 (0, 0))) ∧ Aside0 (Upd g w w')) (ds := []) (bm 22 0) (by as_aux_lemma => kernel_rfl) rfl (by as_aux_lemma => kernel_rfl) ⟨k0, k1, k2, (Aside0.mk H2.out), (Aside0.mk ⟨rfl, rfl, rfl, (Kept.refl _ _).drew⟩)⟩ (fun hHeld => ?_)
  refine with_tabW rbytes.tab1 rbytes.bits1 (fun HT_ HW_ => ?_)
  refine pure_ (i := 0) (N := some 5) (v := ?_) (a' := ?_) (bm 22 1) rfl rfl (any_of HT_.out (by as_aux_lemma => kernel_rfl)) (fun _ _ _ h => h) (Or.inl ⟨by rfl, ?_⟩) ?_ ?_
  rotate_left
  · intro w'
    go_simp
    with_reducible rfl
  rotate_left
  · simp only [Act.put, List.setIfInBounds_toArray, List.set_cons_zero, List.set_cons_succ, i64_w, i32_w]
    rfl
  refine pure_ (i := 1) (N := some 6) (v := ?_) (a' := ?_) (bm 22 3) rfl rfl (any_of HT_.out (by as_aux_lemma => kernel_rfl)) (fun _ _ _ h => h) (Or.inl ⟨by rfl, ?_⟩) ?_ ?_
  rotate_left
  · intro w'
    go_simp
    with_reducible rfl
  rotate_left
  · simp only [Act.put, List.setIfInBounds_toArray, List.set_cons_zero, List.set_cons_succ, i64_w, i32_w]
    rfl
  refine pure_ (i := 2) (N := some 7) (v := ?_) (a' := ?_) (bm 22 7) rfl rfl (any_of HT_.out (by as_aux_lemma => kernel_rfl)) (fun _ _ _ h => h) (Or.inl ⟨by rfl, ?_⟩) ?_ ?_
  rotate_left
  · intro w'
    go_simp
    with_reducible rfl
  rotate_left
  · simp only [Act.put, List.setIfInBounds_toArray, List.set_cons_zero, List.set_cons_succ, i64_w, i32_w]
    rfl
  refine take_ (i := 3) (N := some 8) (v := ?_) (a' := ?_) (bm 22 15) rfl rfl (take_ofW HT_.out HW_.out (by as_aux_lemma => kernel_rfl)) (fun _ _ _ h => h) (Or.inl ⟨by rfl, ?_⟩) hHeld ?_ ?_
  rotate_left
  · rintro w' ⟨s0, s1, s2, s3, s4⟩
    go_simp
    with_reducible rfl
  rotate_left
  · simp only [Act.put, List.setIfInBounds_toArray, List.set_cons_zero, List.set_cons_succ, i64_w, i32_w]
    rfl
  refine pure_ (i := 4) (N := some 9) (v := ?_) (a' := ?_) (bm 22 31) rfl rfl (any_of HT_.out (by as_aux_lemma => kernel_rfl)) (fun _ _ _ h => h) (Or.inl ⟨by rfl, ?_⟩) ?_ ?_
  rotate_left
  · intro w'
    go_simp
    with_reducible rfl
  rotate_left
  · simp only [Act.put, List.setIfInBounds_toArray, List.set_cons_zero, List.set_cons_succ, i64_w, i32_w]
    rfl
  refine pure_ (i := 5) (N := some 10) (v := undef) (a' := ?_) (bm 22 63) rfl rfl (any_of HT_.out (by as_aux_lemma => kernel_rfl)) (fun _ _ _ h => h) (Or.inr ⟨by rfl, rfl⟩) ?_ ?_
  rotate_left
  · simp only [Act.put, List.setIfInBounds_toArray, List.set_cons_zero, List.set_cons_succ, i64_w, i32_w]
    rfl
  refine pure_ (i := 6) (N := some 11) (v := undef) (a' := ?_) (bm 22 127) rfl rfl (any_of HT_.out (by as_aux_lemma => kernel_rfl)) (fun _ _ _ h => h) (Or.inr ⟨by rfl, rfl⟩) ?_ ?_
  rotate_left
  · simp only [Act.put, List.setIfInBounds_toArray, List.set_cons_zero, List.set_cons_succ, i64_w, i32_w]
    rfl
  refine pure_ (i := 7) (N := some 12) (v := ?_) (a' := ?_) (bm 22 255) rfl rfl (any_of HT_.out (by as_aux_lemma => kernel_rfl)) (fun _ _ _ h => h) (Or.inl ⟨by rfl, ?_⟩) ?_ ?_
  rotate_left
  · intro w'
    go_simp
    with_reducible rfl
  rotate_left
  · simp only [Act.put, List.setIfInBounds_toArray, List.set_cons_zero, List.set_cons_succ, i64_w, i32_w]
    rfl
  refine pure_ (i := 8) (N := some 13) (v := ?_) (a' := ?_) (bm 22 511) rfl rfl (any_of HT_.out (by as_aux_lemma => kernel_rfl)) (fun _ _ _ h => h) (Or.inl ⟨by rfl, ?_⟩) ?_ ?_
  rotate_left
  · intro w'
    go_simp
    with_reducible rfl
  rotate_left
  · simp only [Act.put, List.setIfInBounds_toArray, List.set_cons_zero, List.set_cons_succ, i64_w, i32_w]
    rfl
  refine pure_ (i := 9) (N := some 14) (v := undef) (a' := ?_) (bm 22 1023) rfl rfl (any_of HT_.out (by as_aux_lemma => kernel_rfl)) (fun _ _ _ h => h) (Or.inr ⟨by rfl, rfl⟩) ?_ ?_
  rotate_left
  · simp only [Act.put, List.setIfInBounds_toArray, List.set_cons_zero, List.set_cons_succ, i64_w, i32_w]
    rfl
  refine pure_ (i := 10) (N := some 15) (v := undef) (a' := ?_) (bm 22 2047) rfl rfl (any_of HT_.out (by as_aux_lemma => kernel_rfl)) (fun _ _ _ h => h) (Or.inr ⟨by rfl, rfl⟩) ?_ ?_
  rotate_left
  · simp only [Act.put, List.setIfInBounds_toArray, List.set_cons_zero, List.set_cons_succ, i64_w, i32_w]
    rfl
  refine pure_ (i := 11) (N := some 16) (v := undef) (a' := ?_) (bm 22 4095) rfl rfl (any_of HT_.out (by as_aux_lemma => kernel_rfl)) (fun _ _ _ h => h) (Or.inr ⟨by rfl, rfl⟩) ?_ ?_
  rotate_left
  · simp only [Act.put, List.setIfInBounds_toArray, List.set_cons_zero, List.set_cons_succ, i64_w, i32_w]
    rfl
  refine pure_ (i := 12) (N := some 17) (v := undef) (a' := ?_) (bm 22 8191) rfl rfl (any_of HT_.out (by as_aux_lemma => kernel_rfl)) (fun _ _ _ h => h) (Or.inr ⟨by rfl, rfl⟩) ?_ ?_
  rotate_left
  · simp only [Act.put, List.setIfInBounds_toArray, List.set_cons_zero, List.set_cons_succ, i64_w, i32_w]
    rfl
  refine pure_ (i := 13) (N := some 18) (v := undef) (a' := ?_) (bm 22 16383) rfl rfl (any_of HT_.out (by as_aux_lemma => kernel_rfl)) (fun _ _ _ h => h) (Or.inr ⟨by rfl, rfl⟩) ?_ ?_
  rotate_left
  · simp only [Act.put, List.setIfInBounds_toArray, List.set_cons_zero, List.set_cons_succ, i64_w, i32_w]
    rfl
  refine pure_ (i := 14) (N := some 19) (v := undef) (a' := ?_) (bm 22 32767) rfl rfl (any_of HT_.out (by as_aux_lemma => kernel_rfl)) (fun _ _ _ h => h) (Or.inr ⟨by rfl, rfl⟩) ?_ ?_
  rotate_left
  · simp only [Act.put, List.setIfInBounds_toArray, List.set_cons_zero, List.set_cons_succ, i64_w, i32_w]
    rfl
  refine pure_ (i := 15) (N := some 20) (v := undef) (a' := ?_) (bm 22 65535) rfl rfl (any_of HT_.out (by as_aux_lemma => kernel_rfl)) (fun _ _ _ h => h) (Or.inr ⟨by rfl, rfl⟩) ?_ ?_
  rotate_left
  · simp only [Act.put, List.setIfInBounds_toArray, List.set_cons_zero, List.set_cons_succ, i64_w, i32_w]
    rfl
  refine pure_ (i := 16) (N := some 21) (v := undef) (a' := ?_) (bm 22 131071) rfl rfl (any_of HT_.out (by as_aux_lemma => kernel_rfl)) (fun _ _ _ h => h) (Or.inr ⟨by rfl, rfl⟩) ?_ ?_
  rotate_left
  · simp only [Act.put, List.setIfInBounds_toArray, List.set_cons_zero, List.set_cons_succ, i64_w, i32_w]
    rfl
  refine pure_ (i := 17) (N := some 22) (v := undef) (a' := ?_) (bm 22 262143) rfl rfl (any_of HT_.out (by as_aux_lemma => kernel_rfl)) (fun _ _ _ h => h) (Or.inr ⟨by rfl, rfl⟩) ?_ ?_
  rotate_left
  · simp only [Act.put, List.setIfInBounds_toArray, List.set_cons_zero, List.set_cons_succ, i64_w, i32_w]
    rfl
  refine pure_ (i := 18) (N := some 23) (v := undef) (a' := ?_) (bm 22 524287) rfl rfl (any_of HT_.out (by as_aux_lemma => kernel_rfl)) (fun _ _ _ h => h) (Or.inr ⟨by rfl, rfl⟩) ?_ ?_
  rotate_left
  · simp only [Act.put, List.setIfInBounds_toArray, List.set_cons_zero, List.set_cons_succ, i64_w, i32_w]
    rfl
  refine pure_ (i := 19) (N := some 24) (v := undef) (a' := ?_) (bm 22 1048575) rfl rfl (any_of HT_.out (by as_aux_lemma => kernel_rfl)) (fun _ _ _ h => h) (Or.inr ⟨by rfl, rfl⟩) ?_ ?_
  rotate_left
  · simp only [Act.put, List.setIfInBounds_toArray, List.set_cons_zero, List.set_cons_succ, i64_w, i32_w]
    rfl
  refine pure_ (i := 20) (N := some 25) (v := undef) (a' := ?_) (bm 22 2097151) rfl rfl (any_of HT_.out (by as_aux_lemma => kernel_rfl)) (fun _ _ _ h => h) (Or.inr ⟨by rfl, rfl⟩) ?_ ?_
  rotate_left
  · simp only [Act.put, List.setIfInBounds_toArray, List.set_cons_zero, List.set_cons_succ, i64_w, i32_w]
    rfl
  refine pure_ (i := 21) (N := some 26) (v := ?_) (a' := ?_) (bm 22 4194303) rfl rfl (any_of HT_.out (by as_aux_lemma => kernel_rfl)) (fun _ _ _ h => h) (Or.inl ⟨by rfl, ?_⟩) ?_ ?_
  rotate_left
  · intro w'
    go_simp
    with_reducible rfl
  rotate_left
  · simp only [Act.put, List.setIfInBounds_toArray, List.set_cons_zero, List.set_cons_succ, i64_w, i32_w]
    rfl
  refine done_ (done_of HT_.out (by as_aux_lemma => kernel_rfl)) ?_
  have hb := hHeld.2.2.2.1.out
  have hU := hHeld.2.2.2.2.out
  obtain ⟨⟨q0, q1, q2, q3⟩, p0, p1, p2, p3⟩ := cells4 hb
  clear hHeld
  generalize World.drew w = wd at *
  have HS := Aside0.mk (fun (W : World) (hW : W = (wd.setCell ⟨g, 2, none⟩ (.bool true)).setCell ⟨g, 1, none⟩ (.int .i64 xs.length)) => (by
    subst hW
    exact ⟨h1, Nat.le_refl _, hx, A, c, blk_put (blk_put hb 2 _ rfl) 1 _ rfl, h3, H4.out.on ((hU.trans ((Upd.set _ _ _ _).trans (Upd.set _ _ _ _))).kept.mono (fun k hk => .inr (by omega)))⟩ : RAt hi W g xs xs.length true e))
  have HU := Aside0.mk (hU.trans ((Upd.set wd g 2 (.bool true)).trans (Upd.set _ g 1 (.int .i64 xs.length))))
  clear hb hU
  go_wp2_with (go_at_call 46; refine (FIN.out _ ?hw).mono ?_; (case hw => exact HS.out _ rfl); rintro en w2 ⟨rfl, b1, b2⟩; have N1 := Aside0.mk b1; have N2 := Aside0.mk b2; clear b1 b2)
  go_ret
  exact ⟨rfl, N1.out, HU.out.trans N2.out⟩
theorem bytes_neg (hi g : Nat) (xs : List Int) (n : Nat) (e m : Int) (w : World) (h : RAt hi w g xs n false e) (hm : m < 0) :
    Calls Try.prog 60 #[.pointer (some ⟨g, 0, none⟩), .int .i64 m] w fun en w' => en = .returned (.slice none 0 0) ∧ RAt hi w' g xs xs.length true (fstE e 2) ∧ Upd g w w' := by
  obtain ⟨h1, hn, hx, A, c, h2, h3, h4⟩ := h
  obtain ⟨⟨k0, k1, k2, k3⟩, f0, f1, f2, f3⟩ := cells4 h2
  have H2 := Aside0.mk h2
  have H4 := Aside0.mk h4
  clear h2 h4
  have hu1 := Try.underlying78
  have d1 : decide (m < 0) = true := decide_eq_true hm
  have c1 : wrap64 ((xs.length : Int) - (n : Int)) = (xs.length : Int) - (n : Int) := wrap64_id (by omega) (by omega)
  have FIN := Aside0.mk (fun (W : World) (hW : RAt hi W g xs xs.length true e) => need_any hi g xs xs.length true e W hW 2)
  go_enter Try.func60, Try.ntmps60
  go_wp2
  refine start_ (n := 22) (S := fun w' => w'.cell? ⟨g, 0, none⟩ = some (.slice A xs.length c) ∧ w'.cell? ⟨g, 1, none⟩ = some (.int .i64 n) ∧ w'.cell? ⟨g, 2, none⟩ = some (.bool false) ∧ Aside0 (w'.heap[g]? = some (.cells #[.slice A xs.length c, .int .i64 n, .bool false, .int .i64 e] 78 (0, 0))) ∧ Aside0 (Upd g w w')) (ds := []) (bm 22 0) (by as_aux_lemma => kernel_rfl) rfl (by as_aux_lemma => kernel_rfl) ⟨k0, k1, k2, (Aside0.mk H2.out), (Aside0.mk ⟨rfl, rfl, rfl, (Kept.refl _ _).drew⟩)⟩ (fun hHeld => ?_)
  refine with_tabW rbytes.tab1 rbytes.bits1 (fun HT_ HW_ => ?_)
  refine pure_ (i := 0) (N := some 5) (v := ?_) (a' := ?_) (bm 22 1) rfl rfl (any_of HT_.out (by as_aux_lemma => kernel_rfl)) (fun _ _ _ h => h) (Or.inl ⟨by rfl, ?_⟩) ?_ ?_
  rotate_left
  · intro w'
    go_simp
    with_reducible rfl
  rotate_left
  · simp only [Act.put, List.setIfInBounds_toArray, List.set_cons_zero, List.set_cons_succ, i64_w, i32_w]
    rfl
  refine pure_ (i := 1) (N := some 6) (v := ?_) (a' := ?_) (bm 22 3) rfl rfl (any_of HT_.out (by as_aux_lemma => kernel_rfl)) (fun _ _ _ h => h) (Or.inl ⟨by rfl, ?_⟩) ?_ ?_
  rotate_left
  · intro w'
    go_simp
    with_reducible rfl
  rotate_left
  · simp only [Act.put, List.setIfInBounds_toArray, List.set_cons_zero, List.set_cons_succ, i64_w, i32_w]
    rfl
  refine pure_ (i := 2) (N := some 7) (v := ?_) (a' := ?_) (bm 22 7) rfl rfl (any_of HT_.out (by as_aux_lemma => kernel_rfl)) (fun _ _ _ h => h) (Or.inl ⟨by rfl, ?_⟩) ?_ ?_
  rotate_left
  · intro w'
    go_simp
    with_reducible rfl
  rotate_left
  · simp only [Act.put, List.setIfInBounds_toArray, List.set_cons_zero, List.set_cons_succ, i64_w, i32_w]
    rfl
  refine take_ (i := 3) (N := some 8) (v := ?_) (a' := ?_) (bm 22 15) rfl rfl (take_ofW HT_.out HW_.out (by as_aux_lemma => kernel_rfl)) (fun _ _ _ h => h) (Or.inl ⟨by rfl, ?_⟩) hHeld ?_ ?_
  rotate_left
  · rintro w' ⟨s0, s1, s2, s3, s4⟩
    go_simp
    with_reducible rfl
  rotate_left
  · simp only [Act.put, List.setIfInBounds_toArray, List.set_cons_zero, List.set_cons_succ, i64_w, i32_w]
    rfl
  refine pure_ (i := 4) (N := some 9) (v := ?_) (a' := ?_) (bm 22 31) rfl rfl (any_of HT_.out (by as_aux_lemma => kernel_rfl)) (fun _ _ _ h => h) (Or.inl ⟨by rfl, ?_⟩) ?_ ?_
  rotate_left
  · intro w'
    go_simp
    with_reducible rfl
  rotate_left
  · simp only [Act.put, List.setIfInBounds_toArray, List.set_cons_zero, List.set_cons_succ, i64_w, i32_w]
    rfl
  refine pure_ (i := 5) (N := some 10) (v := ?_) (a' := ?_) (bm 22 63) rfl rfl (any_of HT_.out (by as_aux_lemma => kernel_rfl)) (fun _ _ _ h => h) (Or.inl ⟨by rfl, ?_⟩) ?_ ?_
  rotate_left
  · intro w'
    go_simp
    with_reducible rfl
  rotate_left
  · simp only [Act.put, List.setIfInBounds_toArray, List.set_cons_zero, List.set_cons_succ, i64_w, i32_w]
    rfl
  refine pure_ (i := 6) (N := some 11) (v := ?_) (a' := ?_) (bm 22 127) rfl rfl (any_of HT_.out (by as_aux_lemma => kernel_rfl)) (fun _ _ _ h => h) (Or.inl ⟨by rfl, ?_⟩) ?_ ?_
  rotate_left
  · intro w'
    go_simp
    with_reducible rfl
  rotate_left
  · simp only [Act.put, List.setIfInBounds_toArray, List.set_cons_zero, List.set_cons_succ, i64_w, i32_w]
    rfl
  refine pure_ (i := 7) (N := some 12) (v := ?_) (a' := ?_) (bm 22 255) rfl rfl (any_of HT_.out (by as_aux_lemma => kernel_rfl)) (fun _ _ _ h => h) (Or.inl ⟨by rfl, ?_⟩) ?_ ?_
  rotate_left
  · intro w'
    go_simp
    with_reducible rfl
  rotate_left
  · simp only [Act.put, List.setIfInBounds_toArray, List.set_cons_zero, List.set_cons_succ, i64_w, i32_w]
    rfl
  refine pure_ (i := 8) (N := some 13) (v := ?_) (a' := ?_) (bm 22 511) rfl rfl (any_of HT_.out (by as_aux_lemma => kernel_rfl)) (fun _ _ _ h => h) (Or.inl ⟨by rfl, ?_⟩) ?_ ?_
  rotate_left
  · intro w'
    go_simp
    with_reducible rfl
  rotate_left
  · simp only [Act.put, List.setIfInBounds_toArray, List.set_cons_zero, List.set_cons_succ, i64_w, i32_w]
    rfl
  refine pure_ (i := 9) (N := some 14) (v := undef) (a' := ?_) (bm 22 1023) rfl rfl (any_of HT_.out (by as_aux_lemma => kernel_rfl)) (fun _ _ _ h => h) (Or.inr ⟨by rfl, rfl⟩) ?_ ?_
  rotate_left
  · simp only [Act.put, List.setIfInBounds_toArray, List.set_cons_zero, List.set_cons_succ, i64_w, i32_w]
    rfl
  refine pure_ (i := 10) (N := some 15) (v := undef) (a' := ?_) (bm 22 2047) rfl rfl (any_of HT_.out (by as_aux_lemma => kernel_rfl)) (fun _ _ _ h => h) (Or.inr ⟨by rfl, rfl⟩) ?_ ?_
  rotate_left
  · simp only [Act.put, List.setIfInBounds_toArray, List.set_cons_zero, List.set_cons_succ, i64_w, i32_w]
    rfl
  refine pure_ (i := 11) (N := some 16) (v := undef) (a' := ?_) (bm 22 4095) rfl rfl (any_of HT_.out (by as_aux_lemma => kernel_rfl)) (fun _ _ _ h => h) (Or.inr ⟨by rfl, rfl⟩) ?_ ?_
  rotate_left
  · simp only [Act.put, List.setIfInBounds_toArray, List.set_cons_zero, List.set_cons_succ, i64_w, i32_w]
    rfl
  refine pure_ (i := 12) (N := some 17) (v := undef) (a' := ?_) (bm 22 8191) rfl rfl (any_of HT_.out (by as_aux_lemma => kernel_rfl)) (fun _ _ _ h => h) (Or.inr ⟨by rfl, rfl⟩) ?_ ?_
  rotate_left
  · simp only [Act.put, List.setIfInBounds_toArray, List.set_cons_zero, List.set_cons_succ, i64_w, i32_w]
    rfl
  refine pure_ (i := 13) (N := some 18) (v := undef) (a' := ?_) (bm 22 16383) rfl rfl (any_of HT_.out (by as_aux_lemma => kernel_rfl)) (fun _ _ _ h => h) (Or.inr ⟨by rfl, rfl⟩) ?_ ?_
  rotate_left
  · simp only [Act.put, List.setIfInBounds_toArray, List.set_cons_zero, List.set_cons_succ, i64_w, i32_w]
    rfl
  refine pure_ (i := 14) (N := some 19) (v := undef) (a' := ?_) (bm 22 32767) rfl rfl (any_of HT_.out (by as_aux_lemma => kernel_rfl)) (fun _ _ _ h => h) (Or.inr ⟨by rfl, rfl⟩) ?_ ?_
  rotate_left
  · simp only [Act.put, List.setIfInBounds_toArray, List.set_cons_zero, List.set_cons_succ, i64_w, i32_w]
    rfl
  refine pure_ (i := 15) (N := some 20) (v := undef) (a' := ?_) (bm 22 65535) rfl rfl (any_of HT_.out (by as_aux_lemma => kernel_rfl)) (fun _ _ _ h => h) (Or.inr ⟨by rfl, rfl⟩) ?_ ?_
  rotate_left
  · simp only [Act.put, List.setIfInBounds_toArray, List.set_cons_zero, List.set_cons_succ, i64_w, i32_w]
    rfl
  refine pure_ (i := 16) (N := some 21) (v := undef) (a' := ?_) (bm 22 131071) rfl rfl (any_of HT_.out (by as_aux_lemma => kernel_rfl)) (fun _ _ _ h => h) (Or.inr ⟨by rfl, rfl⟩) ?_ ?_
  rotate_left
  · simp only [Act.put, List.setIfInBounds_toArray, List.set_cons_zero, List.set_cons_succ, i64_w, i32_w]
    rfl
  refine pure_ (i := 17) (N := some 22) (v := undef) (a' := ?_) (bm 22 262143) rfl rfl (any_of HT_.out (by as_aux_lemma => kernel_rfl)) (fun _ _ _ h => h) (Or.inr ⟨by rfl, rfl⟩) ?_ ?_
  rotate_left
  · simp only [Act.put, List.setIfInBounds_toArray, List.set_cons_zero, List.set_cons_succ, i64_w, i32_w]
    rfl
  refine pure_ (i := 18) (N := some 23) (v := undef) (a' := ?_) (bm 22 524287) rfl rfl (any_of HT_.out (by as_aux_lemma => kernel_rfl)) (fun _ _ _ h => h) (Or.inr ⟨by rfl, rfl⟩) ?_ ?_
  rotate_left
  · simp only [Act.put, List.setIfInBounds_toArray, List.set_cons_zero, List.set_cons_succ, i64_w, i32_w]
    rfl
  refine pure_ (i := 19) (N := some 24) (v := undef) (a' := ?_) (bm 22 1048575) rfl rfl (any_of HT_.out (by as_aux_lemma => kernel_rfl)) (fun _ _ _ h => h) (Or.inr ⟨by rfl, rfl⟩) ?_ ?_
  rotate_left
  · simp only [Act.put, List.setIfInBounds_toArray, List.set_cons_zero, List.set_cons_succ, i64_w, i32_w]
    rfl
  refine pure_ (i := 20) (N := some 25) (v := undef) (a' := ?_) (bm 22 2097151) rfl rfl (any_of HT_.out (by as_aux_lemma => kernel_rfl)) (fun _ _ _ h => h) (Or.inr ⟨by rfl, rfl⟩) ?_ ?_
  rotate_left
  · simp only [Act.put, List.setIfInBounds_toArray, List.set_cons_zero, List.set_cons_succ, i64_w, i32_w]
    rfl
  refine pure_ (i := 21) (N := some 26) (v := ?_) (a' := ?_) (bm 22 4194303) rfl rfl (any_of HT_.out (by as_aux_lemma => kernel_rfl)) (fun _ _ _ h => h) (Or.inl ⟨by rfl, ?_⟩) ?_ ?_
  rotate_left
  · intro w'
    go_simp
    with_reducible rfl
  rotate_left
  · simp only [Act.put, List.setIfInBounds_toArray, List.set_cons_zero, List.set_cons_succ, i64_w, i32_w]
    rfl
  refine done_ (done_of HT_.out (by as_aux_lemma => kernel_rfl)) ?_
  have hb := hHeld.2.2.2.1.out
  have hU := hHeld.2.2.2.2.out
  obtain ⟨⟨q0, q1, q2, q3⟩, p0, p1, p2, p3⟩ := cells4 hb
  clear hHeld
  generalize World.drew w = wd at *
  have HS := Aside0.mk (fun (W : World) (hW : W = (wd.setCell ⟨g, 2, none⟩ (.bool true)).setCell ⟨g, 1, none⟩ (.int .i64 xs.length)) => (by
    subst hW
    exact ⟨h1, Nat.le_refl _, hx, A, c, blk_put (blk_put hb 2 _ rfl) 1 _ rfl, h3, H4.out.on ((hU.trans ((Upd.set _ _ _ _).trans (Upd.set _ _ _ _))).kept.mono (fun k hk => .inr (by omega)))⟩ : RAt hi W g xs xs.length true e))
  have HU := Aside0.mk (hU.trans ((Upd.set wd g 2 (.bool true)).trans (Upd.set _ g 1 (.int .i64 xs.length))))
  clear hb hU
  go_wp2_with (go_at_call 46; refine (FIN.out _ ?hw).mono ?_; (case hw => exact HS.out _ rfl); rintro en w2 ⟨rfl, b1, b2⟩; have N1 := Aside0.mk b1; have N2 := Aside0.mk b2; clear b1 b2)
  go_ret
  exact ⟨rfl, N1.out, HU.out.trans N2.out⟩
theorem bytes_over (hi g : Nat) (xs : List Int) (n : Nat) (e m : Int) (w : World) (h : RAt hi w g xs n false e) (hm : ¬ m < 0) (ho : (xs.length : Int) - n < m) :
    Calls Try.prog 60 #[.pointer (some ⟨g, 0, none⟩), .int .i64 m] w fun en w' => en = .returned (.slice none 0 0) ∧ RAt hi w' g xs xs.length true (fstE e 2) ∧ Upd g w w' := by
  obtain ⟨h1, hn, hx, A, c, h2, h3, h4⟩ := h
  obtain ⟨⟨k0, k1, k2, k3⟩, f0, f1, f2, f3⟩ := cells4 h2
  have H2 := Aside0.mk h2
  have H4 := Aside0.mk h4
  clear h2 h4
  have hu1 := Try.underlying78
  have d1 : decide (m < 0) = false := decide_eq_false hm
  have d2 : decide (m > (xs.length : Int) - (n : Int)) = true := decide_eq_true ho
  have d3 : decide ((xs.length : Int) - (n : Int) < m) = true := decide_eq_true ho
  have c1 : wrap64 ((xs.length : Int) - (n : Int)) = (xs.length : Int) - (n : Int) := wrap64_id (by omega) (by omega)
  have FIN := Aside0.mk (fun (W : World) (hW : RAt hi W g xs xs.length true e) => need_any hi g xs xs.length true e W hW 2)
  go_enter Try.func60, Try.ntmps60
  go_wp2
  refine start_ (n := 22) (S := fun w' => w'.cell? ⟨g, 0, none⟩ = some (.slice A xs.length c) ∧ w'.cell? ⟨g, 1, none⟩ = some (.int .i64 n) ∧ w'.cell? ⟨g, 2, none⟩ = some (.bool false) ∧ Aside0 (w'.heap[g]? = some (.cells #[.slice A xs.length c, .int .i64 n, .bool false, .int .i64 e] 78 (0, 0))) ∧ Aside0 (Upd g w w')) (ds := []) (bm 22 0) (by as_aux_lemma => kernel_rfl) rfl (by as_aux_lemma => kernel_rfl) ⟨k0, k1, k2, (Aside0.mk H2.out), (Aside0.mk ⟨rfl, rfl, rfl, (Kept.refl _ _).drew⟩)⟩ (fun hHeld => ?_)
  refine with_tabW rbytes.tab1 rbytes.bits1 (fun HT_ HW_ => ?_)
  refine pure_ (i := 0) (N := some 5) (v := ?_) (a' := ?_) (bm 22 1) rfl rfl (any_of HT_.out (by as_aux_lemma => kernel_rfl)) (fun _ _ _ h => h) (Or.inl ⟨by rfl, ?_⟩) ?_ ?_
  rotate_left
  · intro w'
    go_simp
    with_reducible rfl
  rotate_left
  · simp only [Act.put, List.setIfInBounds_toArray, List.set_cons_zero, List.set_cons_succ, i64_w, i32_w]
    rfl
  refine pure_ (i := 1) (N := some 6) (v := ?_) (a' := ?_) (bm 22 3) rfl rfl (any_of HT_.out (by as_aux_lemma => kernel_rfl)) (fun _ _ _ h => h) (Or.inl ⟨by rfl, ?_⟩) ?_ ?_
  rotate_left
  · intro w'
    go_simp
    with_reducible rfl
  rotate_left
  · simp only [Act.put, List.setIfInBounds_toArray, List.set_cons_zero, List.set_cons_succ, i64_w, i32_w]
    rfl
  refine pure_ (i := 2) (N := some 7) (v := ?_) (a' := ?_) (bm 22 7) rfl rfl (any_of HT_.out (by as_aux_lemma => kernel_rfl)) (fun _ _ _ h => h) (Or.inl ⟨by rfl, ?_⟩) ?_ ?_
  rotate_left
  · intro w'
    go_simp
    with_reducible rfl
  rotate_left
  · simp only [Act.put, List.setIfInBounds_toArray, List.set_cons_zero, List.set_cons_succ, i64_w, i32_w]
    rfl
  refine take_ (i := 3) (N := some 8) (v := ?_) (a' := ?_) (bm 22 15) rfl rfl (take_ofW HT_.out HW_.out (by as_aux_lemma => kernel_rfl)) (fun _ _ _ h => h) (Or.inl ⟨by rfl, ?_⟩) hHeld ?_ ?_
  rotate_left
  · rintro w' ⟨s0, s1, s2, s3, s4⟩
    go_simp
    with_reducible rfl
  rotate_left
  · simp only [Act.put, List.setIfInBounds_toArray, List.set_cons_zero, List.set_cons_succ, i64_w, i32_w]
    rfl
  refine pure_ (i := 4) (N := some 9) (v := ?_) (a' := ?_) (bm 22 31) rfl rfl (any_of HT_.out (by as_aux_lemma => kernel_rfl)) (fun _ _ _ h => h) (Or.inl ⟨by rfl, ?_⟩) ?_ ?_
  rotate_left
  · intro w'
    go_simp
    with_reducible rfl
  rotate_left
  · simp only [Act.put, List.setIfInBounds_toArray, List.set_cons_zero, List.set_cons_succ, i64_w, i32_w]
    rfl
  refine pure_ (i := 5) (N := some 10) (v := ?_) (a' := ?_) (bm 22 63) rfl rfl (any_of HT_.out (by as_aux_lemma => kernel_rfl)) (fun _ _ _ h => h) (Or.inl ⟨by rfl, ?_⟩) ?_ ?_
  rotate_left
  · intro w'
    go_simp
    with_reducible rfl
  rotate_left
  · simp only [Act.put, List.setIfInBounds_toArray, List.set_cons_zero, List.set_cons_succ, i64_w, i32_w]
    rfl
  refine pure_ (i := 6) (N := some 11) (v := ?_) (a' := ?_) (bm 22 127) rfl rfl (any_of HT_.out (by as_aux_lemma => kernel_rfl)) (fun _ _ _ h => h) (Or.inl ⟨by rfl, ?_⟩) ?_ ?_
  rotate_left
  · intro w'
    go_simp
    with_reducible rfl
  rotate_left
  · simp only [Act.put, List.setIfInBounds_toArray, List.set_cons_zero, List.set_cons_succ, i64_w, i32_w]
    rfl
  refine pure_ (i := 7) (N := some 12) (v := ?_) (a' := ?_) (bm 22 255) rfl rfl (any_of HT_.out (by as_aux_lemma => kernel_rfl)) (fun _ _ _ h => h) (Or.inl ⟨by rfl, ?_⟩) ?_ ?_
  rotate_left
  · intro w'
    go_simp
    with_reducible rfl
  rotate_left
  · simp only [Act.put, List.setIfInBounds_toArray, List.set_cons_zero, List.set_cons_succ, i64_w, i32_w]
    rfl
  refine pure_ (i := 8) (N := some 13) (v := ?_) (a' := ?_) (bm 22 511) rfl rfl (any_of HT_.out (by as_aux_lemma => kernel_rfl)) (fun _ _ _ h => h) (Or.inl ⟨by rfl, ?_⟩) ?_ ?_
  rotate_left
  · intro w'
    go_simp
    with_reducible rfl
  rotate_left
  · simp only [Act.put, List.setIfInBounds_toArray, List.set_cons_zero, List.set_cons_succ, i64_w, i32_w]
    rfl
  refine pure_ (i := 9) (N := some 14) (v := ?_) (a' := ?_) (bm 22 1023) rfl rfl (any_of HT_.out (by as_aux_lemma => kernel_rfl)) (fun _ _ _ h => h) (Or.inl ⟨by rfl, ?_⟩) ?_ ?_
  rotate_left
  · intro w'
    go_simp
    with_reducible rfl
  rotate_left
  · simp only [Act.put, List.setIfInBounds_toArray, List.set_cons_zero, List.set_cons_succ, i64_w, i32_w]
    rfl
  refine pure_ (i := 10) (N := some 15) (v := ?_) (a' := ?_) (bm 22 2047) rfl rfl (any_of HT_.out (by as_aux_lemma => kernel_rfl)) (fun _ _ _ h => h) (Or.inl ⟨by rfl, ?_⟩) ?_ ?_
  rotate_left
  · intro w'
    go_simp
    with_reducible rfl
  rotate_left
  · simp only [Act.put, List.setIfInBounds_toArray, List.set_cons_zero, List.set_cons_succ, i64_w, i32_w]
    rfl
  refine pure_ (i := 11) (N := some 16) (v := ?_) (a' := ?_) (bm 22 4095) rfl rfl (any_of HT_.out (by as_aux_lemma => kernel_rfl)) (fun _ _ _ h => h) (Or.inl ⟨by rfl, ?_⟩) ?_ ?_
  rotate_left
  · intro w'
    go_simp
    with_reducible rfl
  rotate_left
  · simp only [Act.put, List.setIfInBounds_toArray, List.set_cons_zero, List.set_cons_succ, i64_w, i32_w]
    rfl
  refine pure_ (i := 12) (N := some 17) (v := ?_) (a' := ?_) (bm 22 8191) rfl rfl (any_of HT_.out (by as_aux_lemma => kernel_rfl)) (fun _ _ _ h => h) (Or.inl ⟨by rfl, ?_⟩) ?_ ?_
  rotate_left
  · intro w'
    go_simp
    with_reducible rfl
  rotate_left
  · simp only [Act.put, List.setIfInBounds_toArray, List.set_cons_zero, List.set_cons_succ, i64_w, i32_w]
    rfl
  refine pure_ (i := 15) (N := some 20) (v := ?_) (a' := ?_) (bm 22 40959) rfl rfl (any_of HT_.out (by as_aux_lemma => kernel_rfl)) (fun _ _ _ h => h) (Or.inl ⟨by rfl, ?_⟩) ?_ ?_
  rotate_left
  · intro w'
    go_simp
    with_reducible rfl
  rotate_left
  · simp only [Act.put, List.setIfInBounds_toArray, List.set_cons_zero, List.set_cons_succ, i64_w, i32_w]
    rfl
  refine pure_ (i := 16) (N := some 21) (v := ?_) (a' := ?_) (bm 22 106495) rfl rfl (any_of HT_.out (by as_aux_lemma => kernel_rfl)) (fun _ _ _ h => h) (Or.inl ⟨by rfl, ?_⟩) ?_ ?_
  rotate_left
  · intro w'
    go_simp
    with_reducible rfl
  rotate_left
  · simp only [Act.put, List.setIfInBounds_toArray, List.set_cons_zero, List.set_cons_succ, i64_w, i32_w]
    rfl
  refine pure_ (i := 17) (N := some 22) (v := ?_) (a' := ?_) (bm 22 237567) rfl rfl (any_of HT_.out (by as_aux_lemma => kernel_rfl)) (fun _ _ _ h => h) (Or.inl ⟨by rfl, ?_⟩) ?_ ?_
  rotate_left
  · intro w'
    go_simp
    with_reducible rfl
  rotate_left
  · simp only [Act.put, List.setIfInBounds_toArray, List.set_cons_zero, List.set_cons_succ, i64_w, i32_w]
    rfl
  refine take_ (i := 13) (N := some 18) (v := ?_) (a' := ?_) (bm 22 245759) rfl rfl (take_ofW HT_.out HW_.out (by as_aux_lemma => kernel_rfl)) (fun _ _ _ h => h) (Or.inl ⟨by rfl, ?_⟩) hHeld ?_ ?_
  rotate_left
  · rintro w' ⟨s0, s1, s2, s3, s4⟩
    go_simp
    with_reducible rfl
  rotate_left
  · simp only [Act.put, List.setIfInBounds_toArray, List.set_cons_zero, List.set_cons_succ, i64_w, i32_w]
    rfl
  refine pure_ (i := 14) (N := some 19) (v := ?_) (a' := ?_) (bm 22 262143) rfl rfl (any_of HT_.out (by as_aux_lemma => kernel_rfl)) (fun _ _ _ h => h) (Or.inl ⟨by rfl, ?_⟩) ?_ ?_
  rotate_left
  · intro w'
    go_simp
    with_reducible rfl
  rotate_left
  · simp only [Act.put, List.setIfInBounds_toArray, List.set_cons_zero, List.set_cons_succ, i64_w, i32_w]
    rfl
  refine take_ (i := 18) (N := some 23) (v := ?_) (a' := ?_) (bm 22 524287) rfl rfl (take_ofW HT_.out HW_.out (by as_aux_lemma => kernel_rfl)) (fun _ _ _ h => h) (Or.inl ⟨by rfl, ?_⟩) hHeld ?_ ?_
  rotate_left
  · rintro w' ⟨s0, s1, s2, s3, s4⟩
    go_simp
    with_reducible rfl
  rotate_left
  · simp only [Act.put, List.setIfInBounds_toArray, List.set_cons_zero, List.set_cons_succ, i64_w, i32_w]
    rfl
  refine pure_ (i := 19) (N := some 24) (v := ?_) (a' := ?_) (bm 22 1048575) rfl rfl (any_of HT_.out (by as_aux_lemma => kernel_rfl)) (fun _ _ _ h => h) (Or.inl ⟨by rfl, ?_⟩) ?_ ?_
  rotate_left
  · intro w'
    go_simp
    with_reducible rfl
  rotate_left
  · simp only [Act.put, List.setIfInBounds_toArray, List.set_cons_zero, List.set_cons_succ, i64_w, i32_w]
    rfl
  refine pure_ (i := 20) (N := some 25) (v := ?_) (a' := ?_) (bm 22 2097151) rfl rfl (any_of HT_.out (by as_aux_lemma => kernel_rfl)) (fun _ _ _ h => h) (Or.inl ⟨by rfl, ?_⟩) ?_ ?_
  rotate_left
  · intro w'
    go_simp
    with_reducible rfl
  rotate_left
  · simp only [Act.put, List.setIfInBounds_toArray, List.set_cons_zero, List.set_cons_succ, i64_w, i32_w]
    rfl
  refine pure_ (i := 21) (N := some 26) (v := ?_) (a' := ?_) (bm 22 4194303) rfl rfl (any_of HT_.out (by as_aux_lemma => kernel_rfl)) (fun _ _ _ h => h) (Or.inl ⟨by rfl, ?_⟩) ?_ ?_
  rotate_left
  · intro w'
    go_simp
    with_reducible rfl
  rotate_left
  · simp only [Act.put, List.setIfInBounds_toArray, List.set_cons_zero, List.set_cons_succ, i64_w, i32_w]
    rfl
  refine done_ (done_of HT_.out (by as_aux_lemma => kernel_rfl)) ?_
  have hb := hHeld.2.2.2.1.out
  have hU := hHeld.2.2.2.2.out
  obtain ⟨⟨q0, q1, q2, q3⟩, p0, p1, p2, p3⟩ := cells4 hb
  clear hHeld
  generalize World.drew w = wd at *
  have HS := Aside0.mk (fun (W : World) (hW : W = (wd.setCell ⟨g, 2, none⟩ (.bool true)).setCell ⟨g, 1, none⟩ (.int .i64 xs.length)) => (by
    subst hW
    exact ⟨h1, Nat.le_refl _, hx, A, c, blk_put (blk_put hb 2 _ rfl) 1 _ rfl, h3, H4.out.on ((hU.trans ((Upd.set _ _ _ _).trans (Upd.set _ _ _ _))).kept.mono (fun k hk => .inr (by omega)))⟩ : RAt hi W g xs xs.length true e))
  have HU := Aside0.mk (hU.trans ((Upd.set wd g 2 (.bool true)).trans (Upd.set _ g 1 (.int .i64 xs.length))))
  clear hb hU
  go_wp2_with (go_at_call 46; refine (FIN.out _ ?hw).mono ?_; (case hw => exact HS.out _ rfl); rintro en w2 ⟨rfl, b1, b2⟩; have N1 := Aside0.mk b1; have N2 := Aside0.mk b2; clear b1 b2)
  go_ret
  exact ⟨rfl, N1.out, HU.out.trans N2.out⟩
theorem bytes_ok (hi g : Nat) (xs : List Int) (n : Nat) (e : Int) (m : Nat) (w : World) (h : RAt hi w g xs n false e) (hm : m ≤ xs.length - n) :
    Calls Try.prog 60 #[.pointer (some ⟨g, 0, none⟩), .int .i64 m] w fun en w' => ∃ A' c', en = .returned (.slice A' ((xs.drop n).take m).length c') ∧ ((xs.drop n).take m).length ≤ c' ∧ Row 0 hi w' A' ((xs.drop n).take m) ∧ RAt hi w' g xs (n + m) false e ∧ Upd g w w' := by
  obtain ⟨h1, hn, hx, A, c, h2, h3, h4⟩ := h
  obtain ⟨⟨k0, k1, k2, k3⟩, f0, f1, f2, f3⟩ := cells4 h2
  have H2 := Aside0.mk h2
  have H4 := Aside0.mk h4
  clear h2 h4
  have hu1 := Try.underlying78
  have c1 : wrap64 ((xs.length : Int) - (n : Int)) = (xs.length : Int) - (n : Int) := wrap64_id (by omega) (by omega)
  have d1 : decide ((m : Int) < 0) = false := decide_eq_false (by omega)
  have d2 : decide ((m : Int) > (xs.length : Int) - (n : Int)) = false := decide_eq_false (by omega)
  have d3 : decide ((xs.length : Int) - (n : Int) < (m : Int)) = false := decide_eq_false (by omega)
  have c2 : wrap64 ((n : Int) + (m : Int)) = (n : Int) + (m : Int) := wrap64_id (by omega) (by omega)
  have c3 : wrap64 ((n : Int) + (m : Int) - (m : Int)) = (n : Int) := by rw [wrap64_id (by omega) (by omega)]; omega
  have c5 : wrap64 (n : Int) = (n : Int) := wrap64_id (by omega) (by omega)
  have c4 : (n : Int) + (m : Int) - (m : Int) = (n : Int) := by omega
  clear c3
  obtain ⟨i, hi1, hi2⟩ := u8_info
  have cut := cut_mid 22 5 .i64 .i64 Try.underlying22 hi1 1 hi2 A xs.length c (n : Int) ((n : Int) + (m : Int)) (by omega) (by omega) (by omega) h3
  have hl : ((xs.drop n).take m).length = m := by rw [List.length_take, List.length_drop]; omega
  have hZt : ((n : Int) + (m : Int)).toNat = n + m := by omega
  have hZm : n + m - n = m := by omega
  rw [hZt, Int.toNat_natCast, hZm] at cut
  obtain ⟨A2, hA2⟩ : ∃ A2, A2 = if c = n then A else A.map fun x => x.add (n * 1) := ⟨_, rfl⟩
  rw [← hA2] at cut
  have HR : ∀ W', Kept w W' (fun k => k < 0 ∨ hi ≤ k) → Kd.C (Kd.int .u8) W' A2 ((xs.drop n).take m).length ((xs.drop n).take m) := fun W' hk => Kd.C_take (by have := Kd.C_drop (H4.out W' hk) hn h3; rw [hA2]; exact this) (by rw [List.length_drop]; omega)
  have HRR := Aside0.mk HR
  have hcn : m ≤ c - n := by omega
  clear HR hA2 hi1 hZm hZt
  rw [hl]
  go_enter Try.func60, Try.ntmps60
  go_wp2
  refine start_ (n := 22) (S := fun w' => w'.cell? ⟨g, 0, none⟩ = some (.slice A xs.length c) ∧ w'.cell? ⟨g, 1, none⟩ = some (.int .i64 n) ∧ w'.cell? ⟨g, 2, none⟩ = some (.bool false) ∧ Aside0 (w'.heap[g]? = some (.cells #[.slice A xs.length c, .int .i64 n, .bool false, .int .i64 e] 78 (0, 0))) ∧ Aside0 (Upd g w w')) (ds := []) (bm 22 0) (by as_aux_lemma => kernel_rfl) rfl (by as_aux_lemma => kernel_rfl) ⟨k0, k1, k2, (Aside0.mk H2.out), (Aside0.mk ⟨rfl, rfl, rfl, (Kept.refl _ _).drew⟩)⟩ (fun hHeld => ?_)
  refine with_tabW rbytes.tab1 rbytes.bits1 (fun HT_ HW_ => ?_)
  refine pure_ (i := 0) (N := some 5) (v := ?_) (a' := ?_) (bm 22 1) rfl rfl (any_of HT_.out (by as_aux_lemma => kernel_rfl)) (fun _ _ _ h => h) (Or.inl ⟨by rfl, ?_⟩) ?_ ?_
  rotate_left
  · intro w'
    go_simp
    with_reducible rfl
  rotate_left
  · simp only [Act.put, List.setIfInBounds_toArray, List.set_cons_zero, List.set_cons_succ, i64_w, i32_w]
    rfl
  refine pure_ (i := 1) (N := some 6) (v := ?_) (a' := ?_) (bm 22 3) rfl rfl (any_of HT_.out (by as_aux_lemma => kernel_rfl)) (fun _ _ _ h => h) (Or.inl ⟨by rfl, ?_⟩) ?_ ?_
  rotate_left
  · intro w'
    go_simp
    with_reducible rfl
  rotate_left
  · simp only [Act.put, List.setIfInBounds_toArray, List.set_cons_zero, List.set_cons_succ, i64_w, i32_w]
    rfl
  refine pure_ (i := 2) (N := some 7) (v := ?_) (a' := ?_) (bm 22 7) rfl rfl (any_of HT_.out (by as_aux_lemma => kernel_rfl)) (fun _ _ _ h => h) (Or.inl ⟨by rfl, ?_⟩) ?_ ?_
  rotate_left
  · intro w'
    go_simp
    with_reducible rfl
  rotate_left
  · simp only [Act.put, List.setIfInBounds_toArray, List.set_cons_zero, List.set_cons_succ, i64_w, i32_w]
    rfl
  refine take_ (i := 3) (N := some 8) (v := ?_) (a' := ?_) (bm 22 15) rfl rfl (take_ofW HT_.out HW_.out (by as_aux_lemma => kernel_rfl)) (fun _ _ _ h => h) (Or.inl ⟨by rfl, ?_⟩) hHeld ?_ ?_
  rotate_left
  · rintro w' ⟨s0, s1, s2, s3, s4⟩
    go_simp
    with_reducible rfl
  rotate_left
  · simp only [Act.put, List.setIfInBounds_toArray, List.set_cons_zero, List.set_cons_succ, i64_w, i32_w]
    rfl
  refine pure_ (i := 4) (N := some 9) (v := ?_) (a' := ?_) (bm 22 31) rfl rfl (any_of HT_.out (by as_aux_lemma => kernel_rfl)) (fun _ _ _ h => h) (Or.inl ⟨by rfl, ?_⟩) ?_ ?_
  rotate_left
  · intro w'
    go_simp
    with_reducible rfl
  rotate_left
  · simp only [Act.put, List.setIfInBounds_toArray, List.set_cons_zero, List.set_cons_succ, i64_w, i32_w]
    rfl
  refine pure_ (i := 5) (N := some 10) (v := ?_) (a' := ?_) (bm 22 63) rfl rfl (any_of HT_.out (by as_aux_lemma => kernel_rfl)) (fun _ _ _ h => h) (Or.inl ⟨by rfl, ?_⟩) ?_ ?_
  rotate_left
  · intro w'
    go_simp
    with_reducible rfl
  rotate_left
  · simp only [Act.put, List.setIfInBounds_toArray, List.set_cons_zero, List.set_cons_succ, i64_w, i32_w]
    rfl
  refine pure_ (i := 6) (N := some 11) (v := ?_) (a' := ?_) (bm 22 127) rfl rfl (any_of HT_.out (by as_aux_lemma => kernel_rfl)) (fun _ _ _ h => h) (Or.inl ⟨by rfl, ?_⟩) ?_ ?_
  rotate_left
  · intro w'
    go_simp
    with_reducible rfl
  rotate_left
  · simp only [Act.put, List.setIfInBounds_toArray, List.set_cons_zero, List.set_cons_succ, i64_w, i32_w]
    rfl
  refine pure_ (i := 7) (N := some 12) (v := ?_) (a' := ?_) (bm 22 255) rfl rfl (any_of HT_.out (by as_aux_lemma => kernel_rfl)) (fun _ _ _ h => h) (Or.inl ⟨by rfl, ?_⟩) ?_ ?_
  rotate_left
  · intro w'
    go_simp
    with_reducible rfl
  rotate_left
  · simp only [Act.put, List.setIfInBounds_toArray, List.set_cons_zero, List.set_cons_succ, i64_w, i32_w]
    rfl
  refine pure_ (i := 8) (N := some 13) (v := ?_) (a' := ?_) (bm 22 511) rfl rfl (any_of HT_.out (by as_aux_lemma => kernel_rfl)) (fun _ _ _ h => h) (Or.inl ⟨by rfl, ?_⟩) ?_ ?_
  rotate_left
  · intro w'
    go_simp
    with_reducible rfl
  rotate_left
  · simp only [Act.put, List.setIfInBounds_toArray, List.set_cons_zero, List.set_cons_succ, i64_w, i32_w]
    rfl
  refine pure_ (i := 9) (N := some 14) (v := ?_) (a' := ?_) (bm 22 1023) rfl rfl (any_of HT_.out (by as_aux_lemma => kernel_rfl)) (fun _ _ _ h => h) (Or.inl ⟨by rfl, ?_⟩) ?_ ?_
  rotate_left
  · intro w'
    go_simp
    with_reducible rfl
  rotate_left
  · simp only [Act.put, List.setIfInBounds_toArray, List.set_cons_zero, List.set_cons_succ, i64_w, i32_w]
    rfl
  refine pure_ (i := 10) (N := some 15) (v := ?_) (a' := ?_) (bm 22 2047) rfl rfl (any_of HT_.out (by as_aux_lemma => kernel_rfl)) (fun _ _ _ h => h) (Or.inl ⟨by rfl, ?_⟩) ?_ ?_
  rotate_left
  · intro w'
    go_simp
    with_reducible rfl
  rotate_left
  · simp only [Act.put, List.setIfInBounds_toArray, List.set_cons_zero, List.set_cons_succ, i64_w, i32_w]
    rfl
  refine pure_ (i := 11) (N := some 16) (v := ?_) (a' := ?_) (bm 22 4095) rfl rfl (any_of HT_.out (by as_aux_lemma => kernel_rfl)) (fun _ _ _ h => h) (Or.inl ⟨by rfl, ?_⟩) ?_ ?_
  rotate_left
  · intro w'
    go_simp
    with_reducible rfl
  rotate_left
  · simp only [Act.put, List.setIfInBounds_toArray, List.set_cons_zero, List.set_cons_succ, i64_w, i32_w]
    rfl
  refine pure_ (i := 12) (N := some 17) (v := ?_) (a' := ?_) (bm 22 8191) rfl rfl (any_of HT_.out (by as_aux_lemma => kernel_rfl)) (fun _ _ _ h => h) (Or.inl ⟨by rfl, ?_⟩) ?_ ?_
  rotate_left
  · intro w'
    go_simp
    with_reducible rfl
  rotate_left
  · simp only [Act.put, List.setIfInBounds_toArray, List.set_cons_zero, List.set_cons_succ, i64_w, i32_w]
    rfl
  refine pure_ (i := 15) (N := some 20) (v := ?_) (a' := ?_) (bm 22 40959) rfl rfl (any_of HT_.out (by as_aux_lemma => kernel_rfl)) (fun _ _ _ h => h) (Or.inl ⟨by rfl, ?_⟩) ?_ ?_
  rotate_left
  · intro w'
    go_simp
    with_reducible rfl
  rotate_left
  · simp only [Act.put, List.setIfInBounds_toArray, List.set_cons_zero, List.set_cons_succ, i64_w, i32_w]
    rfl
  refine pure_ (i := 16) (N := some 21) (v := ?_) (a' := ?_) (bm 22 106495) rfl rfl (any_of HT_.out (by as_aux_lemma => kernel_rfl)) (fun _ _ _ h => h) (Or.inl ⟨by rfl, ?_⟩) ?_ ?_
  rotate_left
  · intro w'
    go_simp
    with_reducible rfl
  rotate_left
  · simp only [Act.put, List.setIfInBounds_toArray, List.set_cons_zero, List.set_cons_succ, i64_w, i32_w]
    rfl
  refine pure_ (i := 17) (N := some 22) (v := ?_) (a' := ?_) (bm 22 237567) rfl rfl (any_of HT_.out (by as_aux_lemma => kernel_rfl)) (fun _ _ _ h => h) (Or.inl ⟨by rfl, ?_⟩) ?_ ?_
  rotate_left
  · intro w'
    go_simp
    with_reducible rfl
  rotate_left
  · simp only [Act.put, List.setIfInBounds_toArray, List.set_cons_zero, List.set_cons_succ, i64_w, i32_w]
    rfl
  refine take_ (i := 13) (N := some 18) (v := ?_) (a' := ?_) (bm 22 245759) rfl rfl (take_ofW HT_.out HW_.out (by as_aux_lemma => kernel_rfl)) (fun _ _ _ h => h) (Or.inl ⟨by rfl, ?_⟩) hHeld ?_ ?_
  rotate_left
  · rintro w' ⟨s0, s1, s2, s3, s4⟩
    go_simp
    with_reducible rfl
  rotate_left
  · simp only [Act.put, List.setIfInBounds_toArray, List.set_cons_zero, List.set_cons_succ, i64_w, i32_w]
    rfl
  refine pure_ (i := 14) (N := some 19) (v := ?_) (a' := ?_) (bm 22 262143) rfl rfl (any_of HT_.out (by as_aux_lemma => kernel_rfl)) (fun _ _ _ h => h) (Or.inl ⟨by rfl, ?_⟩) ?_ ?_
  rotate_left
  · intro w'
    go_simp
    with_reducible rfl
  rotate_left
  · simp only [Act.put, List.setIfInBounds_toArray, List.set_cons_zero, List.set_cons_succ, i64_w, i32_w]
    rfl
  refine take_ (i := 18) (N := some 23) (v := ?_) (a' := ?_) (bm 22 524287) rfl rfl (take_ofW HT_.out HW_.out (by as_aux_lemma => kernel_rfl)) (fun _ _ _ h => h) (Or.inl ⟨by rfl, ?_⟩) hHeld ?_ ?_
  rotate_left
  · rintro w' ⟨s0, s1, s2, s3, s4⟩
    go_simp
    with_reducible rfl
  rotate_left
  · simp only [Act.put, List.setIfInBounds_toArray, List.set_cons_zero, List.set_cons_succ, i64_w, i32_w]
    rfl
  refine pure_ (i := 19) (N := some 24) (v := ?_) (a' := ?_) (bm 22 1048575) rfl rfl (any_of HT_.out (by as_aux_lemma => kernel_rfl)) (fun _ _ _ h => h) (Or.inl ⟨by rfl, ?_⟩) ?_ ?_
  rotate_left
  · intro w'
    go_simp
    with_reducible rfl
  rotate_left
  · simp only [Act.put, List.setIfInBounds_toArray, List.set_cons_zero, List.set_cons_succ, i64_w, i32_w]
    rfl
  refine pure_ (i := 20) (N := some 25) (v := ?_) (a' := ?_) (bm 22 2097151) rfl rfl (any_of HT_.out (by as_aux_lemma => kernel_rfl)) (fun _ _ _ h => h) (Or.inl ⟨by rfl, ?_⟩) ?_ ?_
  rotate_left
  · intro w'
    go_simp
    with_reducible rfl
  rotate_left
  · simp only [Act.put, List.setIfInBounds_toArray, List.set_cons_zero, List.set_cons_succ, i64_w, i32_w]
    rfl
  refine pure_ (i := 21) (N := some 26) (v := ?_) (a' := ?_) (bm 22 4194303) rfl rfl (any_of HT_.out (by as_aux_lemma => kernel_rfl)) (fun _ _ _ h => h) (Or.inl ⟨by rfl, ?_⟩) ?_ ?_
  rotate_left
  · intro w'
    go_simp
    with_reducible rfl
  rotate_left
  · simp only [Act.put, List.setIfInBounds_toArray, List.set_cons_zero, List.set_cons_succ, i64_w, i32_w]
    rfl
  refine done_ (done_of HT_.out (by as_aux_lemma => kernel_rfl)) ?_
  have hb := hHeld.2.2.2.1.out
  have hU := hHeld.2.2.2.2.out
  obtain ⟨⟨q0, q1, q2, q3⟩, p0, p1, p2, p3⟩ := cells4 hb
  clear hHeld
  clear hb hU
  go_wp2
  have hb2 : (w.setCell ⟨g, 1, none⟩ (.int .i64 ((n : Int) + (m : Int)))).heap[g]? = some (.cells #[.slice A xs.length c, .int .i64 ((n : Int) + (m : Int)), .bool false, .int .i64 e] 78 (0, 0)) := blk_put H2.out 1 _ rfl
  have hU2 := Upd.set w g 1 (.int .i64 ((n : Int) + (m : Int)))
  obtain ⟨⟨r0, r1, r2, r3⟩, _⟩ := cells4 hb2
  refine start_ (n := 16) (S := fun w' => w'.cell? ⟨g, 0, none⟩ = some (.slice A xs.length c) ∧ w'.cell? ⟨g, 1, none⟩ = some (.int .i64 ((n : Int) + (m : Int))) ∧ w'.cell? ⟨g, 2, none⟩ = some (.bool false) ∧ Aside0 (w'.heap[g]? = some (.cells #[.slice A xs.length c, .int .i64 ((n : Int) + (m : Int)), .bool false, .int .i64 e] 78 (0, 0))) ∧ Aside0 (Upd g w w')) (ds := []) (bm 16 0) (by as_aux_lemma => kernel_rfl) rfl (by as_aux_lemma => kernel_rfl) ⟨r0, r1, r2, (Aside0.mk hb2), (Aside0.mk ⟨hU2.os, hU2.tape, hU2.output, hU2.kept⟩)⟩ (fun hHeld => ?_)
  refine with_tabW rbytes.tab7 rbytes.bits7 (fun HT_ HW_ => ?_)
  refine pure_ (i := 0) (N := some 49) (v := ?_) (a' := ?_) (bm 16 1) rfl rfl (any_of HT_.out (by as_aux_lemma => kernel_rfl)) (fun _ _ _ h => h) (Or.inl ⟨by rfl, ?_⟩) ?_ ?_
  rotate_left
  · intro w'
    go_simp
    with_reducible rfl
  rotate_left
  · simp only [Act.put, List.setIfInBounds_toArray, List.set_cons_zero, List.set_cons_succ, i64_w, i32_w]
    rfl
  refine pure_ (i := 1) (N := some 50) (v := ?_) (a' := ?_) (bm 16 3) rfl rfl (any_of HT_.out (by as_aux_lemma => kernel_rfl)) (fun _ _ _ h => h) (Or.inl ⟨by rfl, ?_⟩) ?_ ?_
  rotate_left
  · intro w'
    go_simp
    with_reducible rfl
  rotate_left
  · simp only [Act.put, List.setIfInBounds_toArray, List.set_cons_zero, List.set_cons_succ, i64_w, i32_w]
    rfl
  refine pure_ (i := 2) (N := some 51) (v := ?_) (a' := ?_) (bm 16 7) rfl rfl (any_of HT_.out (by as_aux_lemma => kernel_rfl)) (fun _ _ _ h => h) (Or.inl ⟨by rfl, ?_⟩) ?_ ?_
  rotate_left
  · intro w'
    go_simp
    with_reducible rfl
  rotate_left
  · simp only [Act.put, List.setIfInBounds_toArray, List.set_cons_zero, List.set_cons_succ, i64_w, i32_w]
    rfl
  refine pure_ (i := 4) (N := some 53) (v := ?_) (a' := ?_) (bm 16 23) rfl rfl (any_of HT_.out (by as_aux_lemma => kernel_rfl)) (fun _ _ _ h => h) (Or.inl ⟨by rfl, ?_⟩) ?_ ?_
  rotate_left
  · intro w'
    go_simp
    with_reducible rfl
  rotate_left
  · simp only [Act.put, List.setIfInBounds_toArray, List.set_cons_zero, List.set_cons_succ, i64_w, i32_w]
    rfl
  refine pure_ (i := 5) (N := some 54) (v := ?_) (a' := ?_) (bm 16 55) rfl rfl (any_of HT_.out (by as_aux_lemma => kernel_rfl)) (fun _ _ _ h => h) (Or.inl ⟨by rfl, ?_⟩) ?_ ?_
  rotate_left
  · intro w'
    go_simp
    with_reducible rfl
  rotate_left
  · simp only [Act.put, List.setIfInBounds_toArray, List.set_cons_zero, List.set_cons_succ, i64_w, i32_w]
    rfl
  refine pure_ (i := 6) (N := some 55) (v := ?_) (a' := ?_) (bm 16 119) rfl rfl (any_of HT_.out (by as_aux_lemma => kernel_rfl)) (fun _ _ _ h => h) (Or.inl ⟨by rfl, ?_⟩) ?_ ?_
  rotate_left
  · intro w'
    go_simp
    with_reducible rfl
  rotate_left
  · simp only [Act.put, List.setIfInBounds_toArray, List.set_cons_zero, List.set_cons_succ, i64_w, i32_w]
    rfl
  refine pure_ (i := 8) (N := some 57) (v := ?_) (a' := ?_) (bm 16 375) rfl rfl (any_of HT_.out (by as_aux_lemma => kernel_rfl)) (fun _ _ _ h => h) (Or.inl ⟨by rfl, ?_⟩) ?_ ?_
  rotate_left
  · intro w'
    go_simp
    with_reducible rfl
  rotate_left
  · simp only [Act.put, List.setIfInBounds_toArray, List.set_cons_zero, List.set_cons_succ, i64_w, i32_w]
    rfl
  refine pure_ (i := 10) (N := some 59) (v := ?_) (a' := ?_) (bm 16 1399) rfl rfl (any_of HT_.out (by as_aux_lemma => kernel_rfl)) (fun _ _ _ h => h) (Or.inl ⟨by rfl, ?_⟩) ?_ ?_
  rotate_left
  · intro w'
    go_simp
    with_reducible rfl
  rotate_left
  · simp only [Act.put, List.setIfInBounds_toArray, List.set_cons_zero, List.set_cons_succ, i64_w, i32_w]
    rfl
  refine pure_ (i := 11) (N := some 60) (v := ?_) (a' := ?_) (bm 16 3447) rfl rfl (any_of HT_.out (by as_aux_lemma => kernel_rfl)) (fun _ _ _ h => h) (Or.inl ⟨by rfl, ?_⟩) ?_ ?_
  rotate_left
  · intro w'
    go_simp
    with_reducible rfl
  rotate_left
  · simp only [Act.put, List.setIfInBounds_toArray, List.set_cons_zero, List.set_cons_succ, i64_w, i32_w]
    rfl
  refine pure_ (i := 12) (N := some 61) (v := ?_) (a' := ?_) (bm 16 7543) rfl rfl (any_of HT_.out (by as_aux_lemma => kernel_rfl)) (fun _ _ _ h => h) (Or.inl ⟨by rfl, ?_⟩) ?_ ?_
  rotate_left
  · intro w'
    go_simp
    with_reducible rfl
  rotate_left
  · simp only [Act.put, List.setIfInBounds_toArray, List.set_cons_zero, List.set_cons_succ, i64_w, i32_w]
    rfl
  refine take_ (i := 3) (N := some 52) (v := ?_) (a' := ?_) (bm 16 7551) rfl rfl (take_ofW HT_.out HW_.out (by as_aux_lemma => kernel_rfl)) (fun _ _ _ h => h) (Or.inl ⟨by rfl, ?_⟩) hHeld ?_ ?_
  rotate_left
  · rintro w' ⟨s0, s1, s2, s3, s4⟩
    go_simp
    with_reducible rfl
  rotate_left
  · simp only [Act.put, List.setIfInBounds_toArray, List.set_cons_zero, List.set_cons_succ, i64_w, i32_w]
    rfl
  refine take_ (i := 7) (N := some 56) (v := ?_) (a' := ?_) (bm 16 7679) rfl rfl (take_ofW HT_.out HW_.out (by as_aux_lemma => kernel_rfl)) (fun _ _ _ h => h) (Or.inl ⟨by rfl, ?_⟩) hHeld ?_ ?_
  rotate_left
  · rintro w' ⟨s0, s1, s2, s3, s4⟩
    go_simp
    with_reducible rfl
  rotate_left
  · simp only [Act.put, List.setIfInBounds_toArray, List.set_cons_zero, List.set_cons_succ, i64_w, i32_w]
    rfl
  refine pure_ (i := 9) (N := some 58) (v := ?_) (a' := ?_) (bm 16 8191) rfl rfl (any_of HT_.out (by as_aux_lemma => kernel_rfl)) (fun _ _ _ h => h) (Or.inl ⟨by rfl, ?_⟩) ?_ ?_
  rotate_left
  · intro w'
    go_simp
    with_reducible rfl
  rotate_left
  · simp only [Act.put, List.setIfInBounds_toArray, List.set_cons_zero, List.set_cons_succ, i64_w, i32_w]
    rfl
  refine take_ (i := 13) (N := some 62) (v := ?_) (a' := ?_) (bm 16 16383) rfl rfl (take_ofW HT_.out HW_.out (by as_aux_lemma => kernel_rfl)) (fun _ _ _ h => h) (Or.inl ⟨by rfl, ?_⟩) hHeld ?_ ?_
  rotate_left
  · rintro w' ⟨s0, s1, s2, s3, s4⟩
    go_simp
    with_reducible rfl
  rotate_left
  · simp only [Act.put, List.setIfInBounds_toArray, List.set_cons_zero, List.set_cons_succ, i64_w, i32_w]
    rfl
  refine pure_ (i := 14) (N := some 63) (v := ?_) (a' := ?_) (bm 16 32767) rfl rfl (any_of HT_.out (by as_aux_lemma => kernel_rfl)) (fun _ _ _ h => h) (Or.inl ⟨by rfl, ?_⟩) ?_ ?_
  rotate_left
  · intro w'
    go_simp
    with_reducible rfl
  rotate_left
  · simp only [Act.put, List.setIfInBounds_toArray, List.set_cons_zero, List.set_cons_succ, i64_w, i32_w]
    rfl
  refine pure_ (i := 15) (N := some 4) (v := ?_) (a' := ?_) (bm 16 65535) rfl rfl (any_of HT_.out (by as_aux_lemma => kernel_rfl)) (fun _ _ _ h => h) (Or.inl ⟨by rfl, ?_⟩) ?_ ?_
  rotate_left
  · intro w'
    go_simp
    with_reducible rfl
  rotate_left
  · simp only [Act.put, List.setIfInBounds_toArray, List.set_cons_zero, List.set_cons_succ, i64_w, i32_w]
    rfl
  refine done_ (done_of HT_.out (by as_aux_lemma => kernel_rfl)) ?_
  go_wp2
  go_ret
  have hK := hHeld.2.2.2.2.out
  refine ⟨A2, c - n, rfl, hcn, fun W' hk => HRR.out W' ((hK.kept.mono (fun k hk => .inr (by omega))).then_ hk (fun _ h2 => .inl h2)), ⟨h1, by omega, hx, A, c, ?_, h3, H4.out.on (hK.kept.mono (fun k hk => .inr (by omega)))⟩, hK⟩
  rw [Int.natCast_add]
  exact hHeld.2.2.2.1.out
end Go.Proofs.Ytdjeekpgcjcffaa.RCur
end
section
namespace Go.Proofs.Ytdjeekpgcjcffaa.RCur
open Go.RowKit Go.Proofs.Ytdjeekpgcjcffaa.P Go.Proofs.Ytdjeekpgcjcffaa.E Go.Proofs.Ytdjeekpgcjcffaa.Cur Go.Proofs.YtdjeekpgcjcffaaW.PrintWords Go.Proofs.YtdjeekpgcjcffaaW.PrintLast Go.Proofs.YtdjeekpgcjcffaaW.PrintMore
theorem bytes_short (hi g : Nat) (xs : List Int) (n : Nat) (s : Bool) (e m : Int) (w : World) (h : RAt hi w g xs n s e) (hm : s = true ∨ m < 0 ∨ (xs.length : Int) - n < m) :
    Calls Try.prog 60 #[.pointer (some ⟨g, 0, none⟩), .int .i64 m] w fun en w' => en = .returned (.slice none 0 0) ∧ RAt hi w' g xs xs.length true (fstE e 2) ∧ Upd g w w' := by
  cases s with
  | true => exact bytes_s hi g xs n e m w h
  | false =>
    by_cases c1 : m < 0
    · exact bytes_neg hi g xs n e m w h c1
    · exact bytes_over hi g xs n e m w h c1 (by rcases hm with h | h | h; cases h; exact absurd h c1; exact h)
theorem byte_ok (hi g : Nat) (xs : List Int) (n : Nat) (e : Int) (w : World) (h : RAt hi w g xs n false e) (hn : n < xs.length) :
    Calls Try.prog 45 #[.pointer (some ⟨g, 0, none⟩)] w fun en w' => en = .returned (.int .u8 (xs.getD n 0)) ∧ RAt hi w' g xs (n + 1) false e ∧ Upd g w w' := by
  have hL : (xs.drop n).take 1 = [xs.getD n 0] := by rw [drop_cons hn 0]; rfl
  have hB := bytes_ok hi g xs n e 1 w h (by omega)
  rw [hL] at hB
  have HB := Aside0.mk hB
  clear h hB hL
  generalize xs.getD n 0 = x at HB ⊢
  go_enter Try.func45, Try.ntmps45
  go_wp2_with (go_at_call 60; refine HB.out.mono ?_; rintro en w1 ⟨A', c', rfl, b1, b2, b3, b4⟩; obtain ⟨ad, rfl, q0⟩ := at_row b2 0 (by simp); rw [Addr.add_zero'] at q0; have q1 : w1.cell? ad = some (.int .u8 x) := q0; have N3 := Aside0.mk b3; have N4 := Aside0.mk b4; clear b1 b2 b3 b4 HB q0)
  go_ret
  exact ⟨rfl, N3.out, N4.out⟩
theorem byte_short (hi g : Nat) (xs : List Int) (n : Nat) (s : Bool) (e : Int) (w : World) (h : RAt hi w g xs n s e) (hs : s = true ∨ xs.length ≤ n) :
    Calls Try.prog 45 #[.pointer (some ⟨g, 0, none⟩)] w fun en w' => en = .returned (.int .u8 0) ∧ RAt hi w' g xs xs.length true (fstE e 2) ∧ Upd g w w' := by
  have HB := Aside0.mk (bytes_short hi g xs n s e 1 w h (by rcases hs with h | h; exact .inl h; exact .inr (.inr (by omega))))
  clear h
  go_enter Try.func45, Try.ntmps45
  go_wp2_with (go_at_call 60; refine HB.out.mono ?_; rintro en w1 ⟨rfl, b3, b4⟩; have N3 := Aside0.mk b3; have N4 := Aside0.mk b4; clear b3 b4 HB)
  go_ret
  exact ⟨rfl, N3.out, N4.out⟩
end Go.Proofs.Ytdjeekpgcjcffaa.RCur
end
section
namespace Go.Proofs.Ytdjeekpgcjcffaa.Cu
open Go.RowKit Go.Proofs.Ytdjeekpgcjcffaa.E Go.Proofs.Ytdjeekpgcjcffaa.Cur Go.Proofs.Ytdjeekpgcjcffaa.RCur Go.Proofs.YtdjeekpgcjcffaaW.PrintWords Go.Proofs.YtdjeekpgcjcffaaW.PrintLast Go.Proofs.YtdjeekpgcjcffaaW.PrintMore
structure Cu where
  xs : List Int
  s : Bool
  e : Int
def Cu.good (c : Cu) : Prop := isBytes c.xs ∧ c.xs.length ≤ 1000000 ∧ (c.s = true → c.xs = [])
def Cu.fail (c : Cu) : Cu := ⟨[], true, fstE c.e 2⟩
def Cu.okB (c : Cu) (n : Int) : Bool := !c.s && decide (0 ≤ n) && decide (n ≤ (c.xs.length : Int))
def Cu.bytesV (c : Cu) (n : Int) : List Int := if c.okB n = true then c.xs.take n.toNat else []
def Cu.bytesS (c : Cu) (n : Int) : Cu := if c.okB n = true then ⟨c.xs.drop n.toNat, c.s, c.e⟩ else c.fail
def Cu.byteV (c : Cu) : Int := (c.bytesV 1).headD 0
def Cu.byteS (c : Cu) : Cu := c.bytesS 1
def Cu.need (c : Cu) (ok : Bool) (f : Int) : Cu := ⟨c.xs, c.s, if c.e = 0 ∧ ok = false then f else c.e⟩
def Cu.fin (c : Cu) : Cu := c.need (decide (c.xs = [])) 3
theorem Cu.good_fail (c : Cu) : c.fail.good := by
  refine ⟨?_, ?_, ?_⟩
  · intro x h; cases h
  · simp [Cu.fail]
  · intro _; rfl
theorem Cu.good_need {c : Cu} (h : c.good) (ok : Bool) (f : Int) : (c.need ok f).good := h
theorem Cu.okB_iff (c : Cu) (n : Int) : c.okB n = true ↔ c.s = false ∧ 0 ≤ n ∧ n ≤ (c.xs.length : Int) := by
  simp [Cu.okB, and_assoc]
theorem Cu.good_bytesS {c : Cu} (h : c.good) (n : Int) : (c.bytesS n).good := by
  unfold Cu.bytesS
  split
  · rename_i hk
    refine ⟨isBytes_drop h.1 _, by have := h.2.1; simp only [List.length_drop]; omega, fun hs => ?_⟩
    rw [((Cu.okB_iff c n).1 hk).1] at hs
    cases hs
  · exact Cu.good_fail c
theorem Cu.good_byteS {c : Cu} (h : c.good) : c.byteS.good := Cu.good_bytesS h 1
theorem Cu.bytes_bytesV {c : Cu} (h : c.good) (n : Int) : isBytes (c.bytesV n) := by
  unfold Cu.bytesV
  split
  · exact isBytes_take h.1 _
  · exact fun x h => by cases h
theorem Cu.byteV_bd {c : Cu} (h : c.good) : 0 ≤ c.byteV ∧ c.byteV < 256 := by
  have := Cu.bytes_bytesV h 1
  unfold Cu.byteV
  cases hv : c.bytesV 1 with
  | nil => simp
  | cons x l => rw [hv] at this; exact this x List.mem_cons_self
theorem Cu.not_okB {c : Cu} {n : Int} (h : ¬ c.okB n = true) : c.s = true ∨ n < 0 ∨ (c.xs.length : Int) < n := by
  rw [Cu.okB_iff] at h
  cases hs : c.s with
  | true => exact .inl rfl
  | false => exact .inr (by have : ¬ (0 ≤ n ∧ n ≤ (c.xs.length : Int)) := fun hh => h ⟨hs, hh.1, hh.2⟩; omega)
def PAt (lo hi : Nat) (w : World) (g : Nat) (c : Cu) : Prop := At lo hi w g c.xs c.s c.e ∧ c.good
theorem PAt.on {lo hi : Nat} {w w' : World} {g : Nat} {c : Cu} {S : Nat → Prop} (h : PAt lo hi w g c) (hk : Kept w w' S) (h1 : ∀ k, S k → k < lo ∨ hi ≤ k) (h2 : ¬ S g) : PAt lo hi w' g c := ⟨h.1.on hk h1 h2, h.2⟩
theorem PAt.below {lo hi : Nat} {w w' : World} {g : Nat} {c : Cu} (h : PAt lo hi w g c) (hb : Below w.heap.size w w') : PAt lo hi w' g c := ⟨h.1.below hb, h.2⟩
theorem p_new (A : Option Addr) (c : Nat) (l : List Int) (w : World) (hr : Kd.C (Kd.int .u8) w A l.length l) (hc : l.length ≤ c) (hs : l.length ≤ 1000000) (hb : isBytes l) :
    Calls Try.prog 20 #[.slice A l.length c] w fun e w' => ∃ g, e = .returned (.pointer (some ⟨g, 0, none⟩)) ∧ w.heap.size ≤ g ∧ PAt w.heap.size g w' g ⟨l, false, 0⟩ ∧ Below w.heap.size w w' ∧ w'.heap.size = g + 1 :=
  (new_any A c l w hr hc hs).mono fun e w' ⟨g, h1, h2, h3, h4, h5⟩ => ⟨g, h1, h2, ⟨h3, hb, hs, fun h => by cases h⟩, h4, h5⟩
theorem p_bytes {lo hi g : Nat} {c : Cu} {w : World} (h : PAt lo hi w g c) (n : Int) :
    Calls Try.prog 23 #[.pointer (some ⟨g, 0, none⟩), .int .i64 n] w fun en w' => ∃ A' c', en = .returned (.slice A' (c.bytesV n).length c') ∧ (c.bytesV n).length ≤ c' ∧ Row w.heap.size w'.heap.size w' A' (c.bytesV n) ∧ PAt lo hi w' g (c.bytesS n) ∧ Upd g w w' := by
  have hg := Cu.good_bytesS h.2 n
  unfold Cu.bytesV PAt
  unfold Cu.bytesS at hg ⊢
  by_cases hk : c.okB n = true
  · rw [if_pos hk] at hg ⊢
    rw [if_pos hk]
    obtain ⟨h1, h2, h3⟩ := (Cu.okB_iff c n).1 hk
    obtain ⟨m, rfl⟩ := Int.eq_ofNat_of_zero_le h2
    have ha := h.1
    rw [h1] at ha
    refine (bytes_ok lo hi g c.xs c.e m w ha (by omega) h.2.2.1).mono ?_
    rintro en w' ⟨A', c', rfl, b1, b2, b3, b4⟩
    refine ⟨A', c', rfl, b1, b2, ⟨?_, hg⟩, b4⟩
    show At lo hi w' g _ c.s c.e
    rw [h1]
    exact b3
  · rw [if_neg hk] at hg ⊢
    rw [if_neg hk]
    refine (Cur.bytes_short lo hi g c.xs c.s c.e n w h.1 (Cu.not_okB hk)).mono ?_
    rintro en w' ⟨rfl, b3, b4⟩
    exact ⟨none, 0, rfl, Nat.le_refl _, Row.nil _ _ _, ⟨b3, hg⟩, b4⟩
theorem one_of {c : Cu} (h : c.okB 1 = true) : ∃ x l, c.xs = x :: l := by
  obtain ⟨_, _, h3⟩ := (Cu.okB_iff c 1).1 h
  cases hx : c.xs with
  | nil => rw [hx] at h3; simp at h3
  | cons x l => exact ⟨x, l, rfl⟩
theorem p_byte {lo hi g : Nat} {c : Cu} {w : World} (h : PAt lo hi w g c) :
    Calls Try.prog 21 #[.pointer (some ⟨g, 0, none⟩)] w fun en w' => en = .returned (.int .u8 c.byteV) ∧ PAt lo hi w' g c.byteS ∧ Upd g w w' := by
  have hg := Cu.good_byteS h.2
  unfold Cu.byteV Cu.bytesV PAt
  unfold Cu.byteS Cu.bytesS at hg ⊢
  by_cases hk : c.okB 1 = true
  · rw [if_pos hk] at hg ⊢
    rw [if_pos hk]
    obtain ⟨x, l, hx⟩ := one_of hk
    have h1 := ((Cu.okB_iff c 1).1 hk).1
    have ha := h.1
    have hl := h.2.2.1
    rw [h1, hx] at ha
    rw [hx] at hl
    refine (byte_ok lo hi g x l c.e w ha hl).mono ?_
    rintro en w' ⟨rfl, b3, b4⟩
    refine ⟨by rw [hx]; rfl, ⟨?_, hg⟩, b4⟩
    show At lo hi w' g (c.xs.drop 1) c.s c.e
    rw [h1, hx]
    exact b3
  · rw [if_neg hk] at hg ⊢
    rw [if_neg hk]
    refine (byte_short lo hi g c.xs c.s c.e w h.1 ?_).mono ?_
    · rcases Cu.not_okB hk with h | h | h
      · exact .inl h
      · omega
      · exact .inr (List.eq_nil_of_length_eq_zero (by omega))
    rintro en w' ⟨rfl, b3, b4⟩
    exact ⟨rfl, ⟨b3, hg⟩, b4⟩
theorem p_need {lo hi g : Nat} {c : Cu} {w : World} (h : PAt lo hi w g c) (ok : Bool) (f : Int) :
    Calls Try.prog 22 #[.pointer (some ⟨g, 0, none⟩), .bool ok, .int .i64 f] w fun en w' => en = .returned (.tuple #[]) ∧ PAt lo hi w' g (c.need ok f) ∧ Upd g w w' :=
  (Cur.need_any lo hi g c.xs c.s c.e ok f w h.1).mono fun en w' ⟨h1, h2, h3⟩ => ⟨h1, ⟨h2, h.2⟩, h3⟩
theorem p_left {lo hi g : Nat} {c : Cu} {w : World} (h : PAt lo hi w g c) :
    Calls Try.prog 43 #[.pointer (some ⟨g, 0, none⟩)] w fun en w' => en = .returned (.int .i64 c.xs.length) ∧ w' = w := Cur.left_any lo hi g c.xs c.s c.e w h.1
theorem p_err {lo hi g : Nat} {c : Cu} {w : World} (h : PAt lo hi w g c) :
    Calls Try.prog 25 #[.pointer (some ⟨g, 0, none⟩)] w fun en w' => en = .returned (.int .i64 c.e) ∧ w' = w := Cur.err_any lo hi g c.xs c.s c.e w h.1
theorem fin_eq (c : Cu) : c.fin = ⟨c.xs, c.s, if c.xs = [] then c.e else fstE c.e 3⟩ := by
  unfold Cu.fin Cu.need fstE
  by_cases hx : c.xs = [] <;> simp [hx]
theorem p_end {lo hi g : Nat} {c : Cu} {w : World} (h : PAt lo hi w g c) :
    Calls Try.prog 27 #[.pointer (some ⟨g, 0, none⟩)] w fun en w' => en = .returned (.tuple #[]) ∧ PAt lo hi w' g c.fin ∧ Upd g w w' := by
  have hg : c.fin.good := Cu.good_need h.2 _ _
  rw [fin_eq] at hg ⊢
  exact (Cur.end_any lo hi g c.xs c.s c.e w h.1).mono fun en w' ⟨h1, h2, h3⟩ => ⟨h1, ⟨h2, hg⟩, h3⟩
def Cu.okW (c : Cu) (n : Int) : Bool := !c.s && decide (0 ≤ n) && decide (2 * n ≤ (c.xs.length : Int))
def Cu.wordsV (c : Cu) (n : Int) : List Int := if c.okW n = true then Take.words (c.xs.take (2 * n.toNat)) else []
def Cu.wordsS (c : Cu) (n : Int) : Cu := if c.okW n = true then ⟨c.xs.drop (2 * n.toNat), c.s, c.e⟩ else c.fail
theorem Cu.okW_iff (c : Cu) (n : Int) : c.okW n = true ↔ c.s = false ∧ 0 ≤ n ∧ 2 * n ≤ (c.xs.length : Int) := by
  simp [Cu.okW, and_assoc]
theorem Cu.good_wordsS {c : Cu} (h : c.good) (n : Int) : (c.wordsS n).good := by
  unfold Cu.wordsS
  split
  · rename_i hk
    refine ⟨isBytes_drop h.1 _, by have := h.2.1; simp only [List.length_drop]; omega, fun hs => ?_⟩
    rw [((Cu.okW_iff c n).1 hk).1] at hs
    cases hs
  · exact Cu.good_fail c
theorem Cu.not_okW {c : Cu} {n : Int} (h : ¬ c.okW n = true) : c.s = true ∨ n < 0 ∨ (c.xs.length : Int) < 2 * n := by
  rw [Cu.okW_iff] at h
  cases hs : c.s with
  | true => exact .inl rfl
  | false => exact .inr (by have : ¬ (0 ≤ n ∧ 2 * n ≤ (c.xs.length : Int)) := fun hh => h ⟨hs, hh.1, hh.2⟩; omega)
theorem row16_nil (A : Option Addr) (lo hi : Nat) (w : World) : Row16 lo hi w A [] := fun W' _ => ⟨rfl, Nat.zero_le _, fun h => absurd h (Nat.lt_irrefl 0)⟩
theorem p_words {lo hi g : Nat} {c : Cu} {w : World} (h : PAt lo hi w g c) (n : Int) :
    Calls Try.prog 59 #[.pointer (some ⟨g, 0, none⟩), .int .i64 n] w fun en w' => ∃ A' c', en = .returned (.slice A' (c.wordsV n).length c') ∧ (c.wordsV n).length ≤ c' ∧ Row16 w.heap.size w'.heap.size w' A' (c.wordsV n) ∧ PAt lo hi w' g (c.wordsS n) ∧ Upd g w w' := by
  have hg := Cu.good_wordsS h.2 n
  unfold Cu.wordsV PAt
  unfold Cu.wordsS at hg ⊢
  by_cases hk : c.okW n = true
  · rw [if_pos hk] at hg ⊢
    rw [if_pos hk]
    obtain ⟨h1, h2, h3⟩ := (Cu.okW_iff c n).1 hk
    obtain ⟨m, rfl⟩ := Int.eq_ofNat_of_zero_le h2
    have ha := h.1
    rw [h1] at ha
    refine (Cur.words_ok lo hi g c.xs c.e m w ha (by omega) h.2.2.1 h.2.1).mono ?_
    rintro en w' ⟨A', c', rfl, b1, b2, b3, b4⟩
    refine ⟨A', c', rfl, b1, b2, ⟨?_, hg⟩, b4⟩
    show At lo hi w' g _ c.s c.e
    rw [h1]
    exact b3
  · rw [if_neg hk] at hg ⊢
    rw [if_neg hk]
    refine (Cur.words_short lo hi g c.xs c.s c.e n w h.1 h.2.2.1 (Cu.not_okW hk)).mono ?_
    rintro en w' ⟨A', c', rfl, b3, b4⟩
    exact ⟨A', c', rfl, Nat.zero_le _, row16_nil _ _ _ _, ⟨b3, hg⟩, b4⟩
theorem Take.wordsBd {l : List Int} (h : isBytes l) : ∀ x ∈ Take.words l, 0 ≤ x ∧ x < 65536 := by
  unfold Take.words Take.pre
  split
  · intro x hx
    obtain ⟨j, _, rfl⟩ := List.mem_map.1 hx
    have h1 := isBytes_rd h (2 * j)
    have h2 := isBytes_rd h (2 * j + 1)
    unfold Take.wordAt
    omega
  · intro x hx
    cases hx
theorem Cu.wordsV_bd {c : Cu} (h : c.good) (n : Int) : ∀ x ∈ c.wordsV n, 0 ≤ x ∧ x < 65536 := by
  unfold Cu.wordsV
  split
  · exact Take.wordsBd (isBytes_take h.1 _)
  · intro x hx
    cases hx
def Cu.wordV (c : Cu) : Int := (c.wordsV 1).headD 0
def Cu.wordS (c : Cu) : Cu := c.wordsS 1
theorem Cu.good_wordS {c : Cu} (h : c.good) : c.wordS.good := Cu.good_wordsS h 1
theorem Cu.wordV_bd {c : Cu} (h : c.good) : 0 ≤ c.wordV ∧ c.wordV < 65536 := by
  have := Cu.wordsV_bd h 1
  unfold Cu.wordV
  cases hv : c.wordsV 1 with
  | nil => simp
  | cons x l => rw [hv] at this; exact this x List.mem_cons_self
theorem two_of {c : Cu} (h : c.okW 1 = true) : ∃ x y l, c.xs = x :: y :: l := by
  obtain ⟨_, _, h3⟩ := (Cu.okW_iff c 1).1 h
  match hx : c.xs with
  | [] => rw [hx] at h3; simp at h3
  | [x] => rw [hx] at h3; simp at h3
  | x :: y :: l => exact ⟨x, y, l, rfl⟩
theorem p_word {lo hi g : Nat} {c : Cu} {w : World} (h : PAt lo hi w g c) :
    Calls Try.prog 58 #[.pointer (some ⟨g, 0, none⟩)] w fun en w' => en = .returned (.int .u16 c.wordV) ∧ PAt lo hi w' g c.wordS ∧ Upd g w w' := by
  have hg := Cu.good_wordS h.2
  unfold Cu.wordV Cu.wordsV PAt
  unfold Cu.wordS Cu.wordsS at hg ⊢
  by_cases hk : c.okW 1 = true
  · rw [if_pos hk] at hg ⊢
    rw [if_pos hk]
    obtain ⟨x, y, l, hx⟩ := two_of hk
    have h1 := ((Cu.okW_iff c 1).1 hk).1
    have ha := h.1
    have hl := h.2.2.1
    have hbb := h.2.1
    rw [h1, hx] at ha
    rw [hx] at hl hbb
    refine (Cur.word_ok lo hi g x y l c.e w ha hl hbb).mono ?_
    rintro en w' ⟨rfl, b3, b4⟩
    refine ⟨by rw [hx, show (2 * (1 : Int).toNat) = 2 * 1 from rfl, words_two]; rfl, ⟨?_, hg⟩, b4⟩
    show At lo hi w' g (c.xs.drop 2) c.s c.e
    rw [h1, hx]
    exact b3
  · rw [if_neg hk] at hg ⊢
    rw [if_neg hk]
    refine (Cur.word_short lo hi g c.xs c.s c.e w h.1 h.2.2.1 ?_).mono ?_
    · rcases Cu.not_okW hk with h | h | h
      · exact .inl h
      · omega
      · exact .inr (by omega)
    rintro en w' ⟨rfl, b3, b4⟩
    exact ⟨rfl, ⟨b3, hg⟩, b4⟩
end Go.Proofs.Ytdjeekpgcjcffaa.Cu
end
section
namespace Go.Proofs.Ytdjeekpgcjcffaa.P
open Go.RowKit Go.Proofs.YtdjeekpgcjcffaaW.PrintWords Go.Proofs.YtdjeekpgcjcffaaW.PrintLast Go.Proofs.YtdjeekpgcjcffaaW.PrintMore
attribute [local go_sem] max2_int min2_int max_two min_two max_three min_three max_four min_four   -- for this text's walks alone
def slices_Equal_uint16_uint16.l0 : Nat → List Int → List Int → Int → Int → Option (Bool)
  | 0, _, _, _, _ => none
  | k + 1, x0, x1, x12, x13 => if x13 < x12 then (if 0 ≤ x13 then (if x13 < (x0.length : Int) then (if x13 < (x1.length : Int) then (if (rd x0 x13) = (rd x1 x13) then (slices_Equal_uint16_uint16.l0 k x0 x1 x12 (wrap64 (x13 + 1))) else (some false)) else (none)) else (none)) else (none)) else (some true)
def slices_Equal_uint16_uint16.f (k : Nat) (l0 : List Int) (l1 : List Int) : Option (Bool) := if (l0.length : Int) = (l1.length : Int) then (slices_Equal_uint16_uint16.l0 k l0 l1 (l0.length : Int) 0) else (some false)
theorem slices_Equal_uint16_uint16.mono_l : ∀ k, (∀ y0 y1 y2 y3, LeO (slices_Equal_uint16_uint16.l0 k y0 y1 y2 y3) (slices_Equal_uint16_uint16.l0 (k + 1) y0 y1 y2 y3))
  | 0 => fun _ _ _ _ r h => by simp [slices_Equal_uint16_uint16.l0] at h
  | k + 1 => by
    have ih0 := slices_Equal_uint16_uint16.mono_l k
    · intro y0 y1 y2 y3
      unfold slices_Equal_uint16_uint16.l0
      repeat' first
      | (with_reducible exact ih0 _ _ _ _)
      | (with_reducible exact LeO.refl _)
      | (with_reducible exact LeO.none _)
      | (with_reducible refine LeO.ite ?_ ?_)
      | (with_reducible refine LeO.bind ?_ (fun _ => ?_))
      | exact ih0 _ _ _ _
      | exact LeO.none _
      | refine LeO.ite ?_ ?_
      | refine LeO.bind ?_ (fun _ => ?_)
theorem slices_Equal_uint16_uint16.mono : ∀ a0 a1 k, LeO (slices_Equal_uint16_uint16.f k a0 a1) (slices_Equal_uint16_uint16.f (k + 1) a0 a1) := by
  intro a0 a1 k
  have ih0 := slices_Equal_uint16_uint16.mono_l k
  unfold slices_Equal_uint16_uint16.f
  repeat' first
      | (with_reducible exact ih0 _ _ _ _)
      | (with_reducible exact LeO.refl _)
      | (with_reducible exact LeO.none _)
      | (with_reducible refine LeO.ite ?_ ?_)
      | (with_reducible refine LeO.bind ?_ (fun _ => ?_))
      | exact ih0 _ _ _ _
      | exact LeO.none _
      | refine LeO.ite ?_ ?_
      | refine LeO.bind ?_ (fun _ => ?_)
theorem slices_Equal_uint16_uint16.calls (k : Nat) (A0 : Option Addr) (c0 : Nat) (l0 : List Int) (A1 : Option Addr) (c1 : Nat) (l1 : List Int) (r : Bool) (w : World) (hr0 : Kd.C (Kd.int .u16) w A0 l0.length l0) (hc0 : l0.length ≤ c0) (hr1 : Kd.C (Kd.int .u16) w A1 l1.length l1) (hc1 : l1.length ≤ c1) (h : slices_Equal_uint16_uint16.f k l0 l1 = some r) :
    Calls Try.prog 51 #[.slice A0 l0.length c0, .slice A1 l1.length c1] w fun e w' => e = .returned (.bool r) ∧ Drawn0 w w' := by
  have HR0 := Aside0.mk hr0
  have HC0 := Aside0.mk hc0
  clear hr0 hc0
  have HR1 := Aside0.mk hr1
  have HC1 := Aside0.mk hc1
  clear hr1 hc1
  have H : (if (l0.length : Int) = (l1.length : Int) then (slices_Equal_uint16_uint16.l0 k l0 l1 (l0.length : Int) 0) else (some false)) = some r := h
  clear h
  by_cases c3 : (l0.length : Int) = (l1.length : Int)
  · rw [if_pos c3] at H
    have c3b0 : ((l0.length : Int) == (l1.length : Int)) = true := beq_iff_eq.mpr c3
    have c3b1 : ((l0.length : Int) != (l1.length : Int)) = false := bne_eq_false_iff_eq.mpr c3
    have c3b2 : (l0.length == l1.length) = true := by first | simpa using c3 | (simp at c3 ⊢; omega)
    clear c3
    have H' := Aside0.mk H
    clear H
    go_enter Try.func51, Try.ntmps51
    go_wp2
    repeat (go_quiet (fail); try go_wp2)
    go_loopg [13] k (fun kq v13 w' => ∃ (x13_1 : Int), v13 = .int .i64 x13_1 ∧ Aside0 (slices_Equal_uint16_uint16.l0 kq l0 l1 (l0.length : Int) x13_1 = some r) ∧ Aside0 (kq ≤ k) ∧ Drawn0 w w')
    case atStart => exact ⟨(0), (by first | rfl | (simp; done) | (simp [*]; done)), H', ⟨Nat.le_refl _⟩, by repeat (first | exact Drawn0.refl _ | apply Drawn0.step)⟩
    case round =>
      clear H'
      try clear c1
      try clear p2
      try clear c3
      try clear c3b0
      try clear c3b1
      try clear c3b2
      obtain ⟨x13_1, rfl, HA, HK1, ⟨m1, rfl⟩⟩ := hrel
      cases gk with
      | zero => exact absurd HA.out (by simp [slices_Equal_uint16_uint16.l0])
      | succ k1 =>
        have H := HA.out
        clear HA
        simp only [slices_Equal_uint16_uint16.l0] at H
        by_cases c4 : x13_1 < (l0.length : Int)
        · rw [if_pos c4] at H
          have c4b0 : decide (x13_1 < (l0.length : Int)) = true := decide_eq_true c4
          clear c4
          by_cases c5 : 0 ≤ x13_1
          · rw [if_pos c5] at H
            have c5b0 : decide (0 ≤ x13_1) = true := decide_eq_true c5
            clear c5
            by_cases c6 : x13_1 < (l0.length : Int)
            · rw [if_pos c6] at H
              have c6b0 : decide (x13_1 < (l0.length : Int)) = true := decide_eq_true c6
              clear c6
              by_cases c7 : x13_1 < (l1.length : Int)
              · rw [if_pos c7] at H
                have c7b0 : decide (x13_1 < (l1.length : Int)) = true := decide_eq_true c7
                clear c7
                by_cases c8 : (rd l0 x13_1) = (rd l1 x13_1)
                · rw [if_pos c8] at H
                  have c8b0 : ((rd l0 x13_1) == (rd l1 x13_1)) = true := beq_iff_eq.mpr c8
                  have c8b1 : ((rd l0 x13_1) != (rd l1 x13_1)) = false := bne_eq_false_iff_eq.mpr c8
                  clear c8
                  have H' := Aside0.mk H
                  clear H
                  have p159 : 0 ≤ (x13_1 : Int) := of_decide_eq_true (by first | (with_reducible assumption) | assumption)
                  have q159 : x13_1 < (l0.length : Int) := of_decide_eq_true (by first | (with_reducible assumption) | assumption)
                  obtain ⟨ad159, e159, hx159_0⟩ := Kd.at_int HR0.out x13_1 p159 q159
                  cases e159
                  replace p159 := eq_true p159
                  replace q159 := eq_true q159
                  have p160 : 0 ≤ (x13_1 : Int) := of_decide_eq_true (by first | (with_reducible assumption) | assumption)
                  have q160 : x13_1 < (l1.length : Int) := of_decide_eq_true (by first | (with_reducible assumption) | assumption)
                  obtain ⟨ad160, e160, hx160_0⟩ := Kd.at_int HR1.out x13_1 p160 q160
                  cases e160
                  replace p160 := eq_true p160
                  replace q160 := eq_true q160
                  go_wp2
                  repeat (go_quiet (fail); try go_wp2)
                  go_roundg k1
                  case measure => have := HK1.out; omega
                  case rel => exact ⟨(wrap64 (x13_1 + 1)), (by first | rfl | (simp; done) | (simp [*]; done)), H', ⟨by have := HK1.out; omega⟩, by repeat (first | exact Drawn0.refl _ | apply Drawn0.step)⟩
                · rw [if_neg c8] at H
                  have c8b0 : ((rd l0 x13_1) == (rd l1 x13_1)) = false := beq_eq_false_iff_ne.mpr c8
                  have c8b1 : ((rd l0 x13_1) != (rd l1 x13_1)) = true := bne_iff_ne.mpr c8
                  obtain rfl := Option.some.inj H
                  have p159 : 0 ≤ (x13_1 : Int) := of_decide_eq_true (by first | (with_reducible assumption) | assumption)
                  have q159 : x13_1 < (l0.length : Int) := of_decide_eq_true (by first | (with_reducible assumption) | assumption)
                  obtain ⟨ad159, e159, hx159_0⟩ := Kd.at_int HR0.out x13_1 p159 q159
                  cases e159
                  replace p159 := eq_true p159
                  replace q159 := eq_true q159
                  have p160 : 0 ≤ (x13_1 : Int) := of_decide_eq_true (by first | (with_reducible assumption) | assumption)
                  have q160 : x13_1 < (l1.length : Int) := of_decide_eq_true (by first | (with_reducible assumption) | assumption)
                  obtain ⟨ad160, e160, hx160_0⟩ := Kd.at_int HR1.out x13_1 p160 q160
                  cases e160
                  replace p160 := eq_true p160
                  replace q160 := eq_true q160
                  go_wp2
                  repeat (go_quiet (fail); try go_wp2)
                  go_ret
                  exact ⟨by first | rfl | (simp; done) | (simp [*]; done), by repeat (first | exact Drawn0.refl _ | apply Drawn0.step)⟩
              · rw [if_neg c7] at H
                exact absurd H (by simp)
            · rw [if_neg c6] at H
              exact absurd H (by simp)
          · rw [if_neg c5] at H
            exact absurd H (by simp)
        · rw [if_neg c4] at H
          have c4b0 : decide (x13_1 < (l0.length : Int)) = false := decide_eq_false c4
          clear c4
          obtain rfl := Option.some.inj H
          go_wp2
          repeat (go_quiet (fail); try go_wp2)
          go_ret
          exact ⟨by first | rfl | (simp; done) | (simp [*]; done), by repeat (first | exact Drawn0.refl _ | apply Drawn0.step)⟩
  · rw [if_neg c3] at H
    have c3b0 : ((l0.length : Int) == (l1.length : Int)) = false := beq_eq_false_iff_ne.mpr c3
    have c3b1 : ((l0.length : Int) != (l1.length : Int)) = true := bne_iff_ne.mpr c3
    have c3b2 : (l0.length == l1.length) = false := by first | simpa using c3 | (simp at c3 ⊢; omega)
    obtain rfl := Option.some.inj H
    go_enter Try.func51, Try.ntmps51
    go_wp2
    repeat (go_quiet (fail); try go_wp2)
    go_ret
    exact ⟨by first | rfl | (simp; done) | (simp [*]; done), by repeat (first | exact Drawn0.refl _ | apply Drawn0.step)⟩
end Go.Proofs.Ytdjeekpgcjcffaa.P
end
section
namespace Go.Proofs.Ytdjeekpgcjcffaa.P
open Go.RowKit Go.Proofs.YtdjeekpgcjcffaaW.PrintWords Go.Proofs.YtdjeekpgcjcffaaW.PrintLast Go.Proofs.YtdjeekpgcjcffaaW.PrintMore
attribute [local go_sem] max2_int min2_int max_two min_two max_three min_three max_four min_four   -- for this text's walks alone
def slices_Equal_bool_bool.l0 : Nat → List Bool → List Bool → Int → Int → Option (Bool)
  | 0, _, _, _, _ => none
  | k + 1, x0, x1, x12, x13 => if x13 < x12 then (if 0 ≤ x13 then (if x13 < (x0.length : Int) then (if x13 < (x1.length : Int) then (if ((rdOf false x0 x13) != (rdOf false x1 x13)) = true then (some false) else (slices_Equal_bool_bool.l0 k x0 x1 x12 (wrap64 (x13 + 1)))) else (none)) else (none)) else (none)) else (some true)
def slices_Equal_bool_bool.f (k : Nat) (l0 : List Bool) (l1 : List Bool) : Option (Bool) := if (l0.length : Int) = (l1.length : Int) then (slices_Equal_bool_bool.l0 k l0 l1 (l0.length : Int) 0) else (some false)
theorem slices_Equal_bool_bool.mono_l : ∀ k, (∀ y0 y1 y2 y3, LeO (slices_Equal_bool_bool.l0 k y0 y1 y2 y3) (slices_Equal_bool_bool.l0 (k + 1) y0 y1 y2 y3))
  | 0 => fun _ _ _ _ r h => by simp [slices_Equal_bool_bool.l0] at h
  | k + 1 => by
    have ih0 := slices_Equal_bool_bool.mono_l k
    · intro y0 y1 y2 y3
      unfold slices_Equal_bool_bool.l0
      repeat' first
      | (with_reducible exact ih0 _ _ _ _)
      | (with_reducible exact LeO.refl _)
      | (with_reducible exact LeO.none _)
      | (with_reducible refine LeO.ite ?_ ?_)
      | (with_reducible refine LeO.bind ?_ (fun _ => ?_))
      | exact ih0 _ _ _ _
      | exact LeO.none _
      | refine LeO.ite ?_ ?_
      | refine LeO.bind ?_ (fun _ => ?_)
theorem slices_Equal_bool_bool.mono : ∀ a0 a1 k, LeO (slices_Equal_bool_bool.f k a0 a1) (slices_Equal_bool_bool.f (k + 1) a0 a1) := by
  intro a0 a1 k
  have ih0 := slices_Equal_bool_bool.mono_l k
  unfold slices_Equal_bool_bool.f
  repeat' first
      | (with_reducible exact ih0 _ _ _ _)
      | (with_reducible exact LeO.refl _)
      | (with_reducible exact LeO.none _)
      | (with_reducible refine LeO.ite ?_ ?_)
      | (with_reducible refine LeO.bind ?_ (fun _ => ?_))
      | exact ih0 _ _ _ _
      | exact LeO.none _
      | refine LeO.ite ?_ ?_
      | refine LeO.bind ?_ (fun _ => ?_)
theorem slices_Equal_bool_bool.calls (k : Nat) (A0 : Option Addr) (c0 : Nat) (l0 : List Bool) (A1 : Option Addr) (c1 : Nat) (l1 : List Bool) (r : Bool) (w : World) (hr0 : Kd.C Kd.bool w A0 l0.length l0) (hc0 : l0.length ≤ c0) (hr1 : Kd.C Kd.bool w A1 l1.length l1) (hc1 : l1.length ≤ c1) (h : slices_Equal_bool_bool.f k l0 l1 = some r) :
    Calls Try.prog 52 #[.slice A0 l0.length c0, .slice A1 l1.length c1] w fun e w' => e = .returned (.bool r) ∧ Drawn0 w w' := by
  have HR0 := Aside0.mk hr0
  have HC0 := Aside0.mk hc0
  clear hr0 hc0
  have HR1 := Aside0.mk hr1
  have HC1 := Aside0.mk hc1
  clear hr1 hc1
  have H : (if (l0.length : Int) = (l1.length : Int) then (slices_Equal_bool_bool.l0 k l0 l1 (l0.length : Int) 0) else (some false)) = some r := h
  clear h
  by_cases c3 : (l0.length : Int) = (l1.length : Int)
  · rw [if_pos c3] at H
    have c3b0 : ((l0.length : Int) == (l1.length : Int)) = true := beq_iff_eq.mpr c3
    have c3b1 : ((l0.length : Int) != (l1.length : Int)) = false := bne_eq_false_iff_eq.mpr c3
    have c3b2 : (l0.length == l1.length) = true := by first | simpa using c3 | (simp at c3 ⊢; omega)
    clear c3
    have H' := Aside0.mk H
    clear H
    go_enter Try.func52, Try.ntmps52
    go_wp2
    repeat (go_quiet (fail); try go_wp2)
    go_loopg [13] k (fun kq v13 w' => ∃ (x13_1 : Int), v13 = .int .i64 x13_1 ∧ Aside0 (slices_Equal_bool_bool.l0 kq l0 l1 (l0.length : Int) x13_1 = some r) ∧ Aside0 (kq ≤ k) ∧ Drawn0 w w')
    case atStart => exact ⟨(0), (by first | rfl | (simp; done) | (simp [*]; done)), H', ⟨Nat.le_refl _⟩, by repeat (first | exact Drawn0.refl _ | apply Drawn0.step)⟩
    case round =>
      clear H'
      try clear c1
      try clear p2
      try clear c3
      try clear c3b0
      try clear c3b1
      try clear c3b2
      obtain ⟨x13_1, rfl, HA, HK1, ⟨m1, rfl⟩⟩ := hrel
      cases gk with
      | zero => exact absurd HA.out (by simp [slices_Equal_bool_bool.l0])
      | succ k1 =>
        have H := HA.out
        clear HA
        simp only [slices_Equal_bool_bool.l0] at H
        by_cases c4 : x13_1 < (l0.length : Int)
        · rw [if_pos c4] at H
          have c4b0 : decide (x13_1 < (l0.length : Int)) = true := decide_eq_true c4
          clear c4
          by_cases c5 : 0 ≤ x13_1
          · rw [if_pos c5] at H
            have c5b0 : decide (0 ≤ x13_1) = true := decide_eq_true c5
            clear c5
            by_cases c6 : x13_1 < (l0.length : Int)
            · rw [if_pos c6] at H
              have c6b0 : decide (x13_1 < (l0.length : Int)) = true := decide_eq_true c6
              clear c6
              by_cases c7 : x13_1 < (l1.length : Int)
              · rw [if_pos c7] at H
                have c7b0 : decide (x13_1 < (l1.length : Int)) = true := decide_eq_true c7
                clear c7
                by_cases c8 : ((rdOf false l0 x13_1) != (rdOf false l1 x13_1)) = true
                · rw [if_pos c8] at H
                  have c8b0 : ((rdOf false l0 x13_1) != (rdOf false l1 x13_1)) = true := c8
                  (try (have c8b1 : decide ((rdOf false l0 x13_1) = (rdOf false l1 x13_1)) = false := by simpa using c8))
                  (try (have c8b2 : ((rdOf false l0 x13_1) == (rdOf false l1 x13_1)) = false := by simpa using c8))
                  (try (have c8b3 : ¬ ((rdOf false l0 x13_1) = (rdOf false l1 x13_1)) := by simpa using c8))
                  clear c8
                  obtain rfl := Option.some.inj H
                  have p161 : 0 ≤ (x13_1 : Int) := of_decide_eq_true (by first | (with_reducible assumption) | assumption)
                  have q161 : x13_1 < (l0.length : Int) := of_decide_eq_true (by first | (with_reducible assumption) | assumption)
                  obtain ⟨ad161, e161, hx161_0⟩ := Kd.at_bool HR0.out x13_1 p161 q161
                  cases e161
                  replace p161 := eq_true p161
                  replace q161 := eq_true q161
                  have p162 : 0 ≤ (x13_1 : Int) := of_decide_eq_true (by first | (with_reducible assumption) | assumption)
                  have q162 : x13_1 < (l1.length : Int) := of_decide_eq_true (by first | (with_reducible assumption) | assumption)
                  obtain ⟨ad162, e162, hx162_0⟩ := Kd.at_bool HR1.out x13_1 p162 q162
                  cases e162
                  replace p162 := eq_true p162
                  replace q162 := eq_true q162
                  go_wp2
                  repeat (go_quiet (fail); try go_wp2)
                  go_ret
                  exact ⟨by first | rfl | (simp; done) | (simp [*]; done), by repeat (first | exact Drawn0.refl _ | apply Drawn0.step)⟩
                · rw [if_neg c8] at H
                  have c8b0 : ((rdOf false l0 x13_1) != (rdOf false l1 x13_1)) = false := by simpa using c8
                  (try (have c8b1 : decide ((rdOf false l0 x13_1) = (rdOf false l1 x13_1)) = true := by simpa using c8))
                  (try (have c8b2 : ((rdOf false l0 x13_1) == (rdOf false l1 x13_1)) = true := by simpa using c8))
                  clear c8
                  have H' := Aside0.mk H
                  clear H
                  have p161 : 0 ≤ (x13_1 : Int) := of_decide_eq_true (by first | (with_reducible assumption) | assumption)
                  have q161 : x13_1 < (l0.length : Int) := of_decide_eq_true (by first | (with_reducible assumption) | assumption)
                  obtain ⟨ad161, e161, hx161_0⟩ := Kd.at_bool HR0.out x13_1 p161 q161
                  cases e161
                  replace p161 := eq_true p161
                  replace q161 := eq_true q161
                  have p162 : 0 ≤ (x13_1 : Int) := of_decide_eq_true (by first | (with_reducible assumption) | assumption)
                  have q162 : x13_1 < (l1.length : Int) := of_decide_eq_true (by first | (with_reducible assumption) | assumption)
                  obtain ⟨ad162, e162, hx162_0⟩ := Kd.at_bool HR1.out x13_1 p162 q162
                  cases e162
                  replace p162 := eq_true p162
                  replace q162 := eq_true q162
                  go_wp2
                  repeat (go_quiet (fail); try go_wp2)
                  go_roundg k1
                  case measure => have := HK1.out; omega
                  case rel => exact ⟨(wrap64 (x13_1 + 1)), (by first | rfl | (simp; done) | (simp [*]; done)), H', ⟨by have := HK1.out; omega⟩, by repeat (first | exact Drawn0.refl _ | apply Drawn0.step)⟩
              · rw [if_neg c7] at H
                exact absurd H (by simp)
            · rw [if_neg c6] at H
              exact absurd H (by simp)
          · rw [if_neg c5] at H
            exact absurd H (by simp)
        · rw [if_neg c4] at H
          have c4b0 : decide (x13_1 < (l0.length : Int)) = false := decide_eq_false c4
          clear c4
          obtain rfl := Option.some.inj H
          go_wp2
          repeat (go_quiet (fail); try go_wp2)
          go_ret
          exact ⟨by first | rfl | (simp; done) | (simp [*]; done), by repeat (first | exact Drawn0.refl _ | apply Drawn0.step)⟩
  · rw [if_neg c3] at H
    have c3b0 : ((l0.length : Int) == (l1.length : Int)) = false := beq_eq_false_iff_ne.mpr c3
    have c3b1 : ((l0.length : Int) != (l1.length : Int)) = true := bne_iff_ne.mpr c3
    have c3b2 : (l0.length == l1.length) = false := by first | simpa using c3 | (simp at c3 ⊢; omega)
    obtain rfl := Option.some.inj H
    go_enter Try.func52, Try.ntmps52
    go_wp2
    repeat (go_quiet (fail); try go_wp2)
    go_ret
    exact ⟨by first | rfl | (simp; done) | (simp [*]; done), by repeat (first | exact Drawn0.refl _ | apply Drawn0.step)⟩
end Go.Proofs.Ytdjeekpgcjcffaa.P
end
section
namespace Go.Proofs.Ytdjeekpgcjcffaa.P
open Go.RowKit Go.Proofs.YtdjeekpgcjcffaaW.PrintWords Go.Proofs.YtdjeekpgcjcffaaW.PrintLast Go.Proofs.YtdjeekpgcjcffaaW.PrintMore
attribute [local go_sem] max2_int min2_int max_two min_two max_three min_three max_four min_four   -- for this text's walks alone
def code_rec.f (k : Nat) (a0_0 : Int) (a0_1 : Int) (a0_2 : Int) (l0_3 : List Int) (a1_0 : Int) (a1_1 : Int) (a1_2 : Int) (l1_3 : List Int) : Option (Bool) := if a0_0 = a1_0 then (if a0_1 = a1_1 then (if a0_2 = a1_2 then ((slices_Equal_uint16_uint16.f k l0_3 l1_3).bind fun t165 => (some t165)) else (some false)) else (some false)) else (some false)
theorem code_rec.calls (k : Nat) (a0_0 : Int) (a0_1 : Int) (a0_2 : Int) (A0_3 : Option Addr) (c0_3 : Nat) (l0_3 : List Int) (a1_0 : Int) (a1_1 : Int) (a1_2 : Int) (A1_3 : Option Addr) (c1_3 : Nat) (l1_3 : List Int) (r : Bool) (w : World) (hr0_3 : Kd.C (Kd.int .u16) w A0_3 l0_3.length l0_3) (hc0_3 : l0_3.length ≤ c0_3) (hr1_3 : Kd.C (Kd.int .u16) w A1_3 l1_3.length l1_3) (hc1_3 : l1_3.length ≤ c1_3) (h : code_rec.f k a0_0 a0_1 a0_2 l0_3 a1_0 a1_1 a1_2 l1_3 = some r) :
    Calls Try.prog 54 #[.agg #[.int .u16 a0_0, .int .u16 a0_1, .int .u16 a0_2, .slice A0_3 l0_3.length c0_3], .agg #[.int .u16 a1_0, .int .u16 a1_1, .int .u16 a1_2, .slice A1_3 l1_3.length c1_3]] w fun e w' => e = .returned (.bool r) ∧ Below w.heap.size w w' := by
  have hu43 := Try.underlying43
  have HR0_3 := Aside0.mk hr0_3
  have HC0_3 := Aside0.mk hc0_3
  clear hr0_3 hc0_3
  have HR1_3 := Aside0.mk hr1_3
  have HC1_3 := Aside0.mk hc1_3
  clear hr1_3 hc1_3
  have HB := Aside0.mk (Below.refl w.heap.size w)
  have H : (if a0_0 = a1_0 then (if a0_1 = a1_1 then (if a0_2 = a1_2 then ((slices_Equal_uint16_uint16.f k l0_3 l1_3).bind fun t165 => (some t165)) else (some false)) else (some false)) else (some false)) = some r := h
  clear h
  by_cases c3 : a0_0 = a1_0
  · rw [if_pos c3] at H
    have c3b0 : (a0_0 == a1_0) = true := beq_iff_eq.mpr c3
    have c3b1 : (a0_0 != a1_0) = false := bne_eq_false_iff_eq.mpr c3
    clear c3
    by_cases c4 : a0_1 = a1_1
    · rw [if_pos c4] at H
      have c4b0 : (a0_1 == a1_1) = true := beq_iff_eq.mpr c4
      have c4b1 : (a0_1 != a1_1) = false := bne_eq_false_iff_eq.mpr c4
      clear c4
      by_cases c5 : a0_2 = a1_2
      · rw [if_pos c5] at H
        have c5b0 : (a0_2 == a1_2) = true := beq_iff_eq.mpr c5
        have c5b1 : (a0_2 != a1_2) = false := bne_eq_false_iff_eq.mpr c5
        clear c5
        replace H := Option.bind_eq_some_iff.mp H
        obtain ⟨t165, A60, H⟩ := H
        replace H : (some t165) = some r := H
        have A6 := Aside0.mk A60
        clear A60
        obtain rfl := Option.some.inj H
        go_enter Try.func54, Try.ntmps54
        go_wp2_with (first | ((with_reducible refine gate_dst (N := 2) rfl ?_); refine box_event ?hg (N := 2) ?hd (cs := #[.int .u16 a0_0, .int .u16 a0_1, .int .u16 a0_2, .slice A0_3 l0_3.length c0_3]) (t := 43) ?hr ?_; (case hd => rfl); (case hg => rfl); (case hr => first | (go_simp; done) | (go_simp; rfl)); intro gb163 hg w7 hbox hb; have n0_ := Aside0.mk (below_step (by repeat (first | (with_reducible first | exact HB.out | apply below_alloc | apply pw_below_drewN | apply below_drew1) | exact HB.out)) hb); have n1_ := Aside0.mk (hbox); have n2_ := Aside0.mk ((by rw [hg]; exact (below_size (by repeat (first | (with_reducible first | exact HB.out | apply below_alloc | apply pw_below_drewN | apply below_drew1) | exact HB.out))) : w.heap.size ≤ gb163)); have n3_ := Aside0.mk ((by rw [hg]; exact (below_size (by repeat (first | (with_reducible first | exact HB.out | apply below_alloc | apply pw_below_drewN | apply below_drew1) | exact HB.out))) : w.heap.size ≤ gb163)); clear HB; have HB := n0_; have BK163 := n1_; have GW163 := n2_; have GE163 := n3_; clear n0_ n1_ n2_ n3_; clear hb hbox hg) | ((with_reducible refine gate_dst (N := 3) rfl ?_); refine box_event ?hg (N := 3) ?hd (cs := #[.int .u16 a1_0, .int .u16 a1_1, .int .u16 a1_2, .slice A1_3 l1_3.length c1_3]) (t := 43) ?hr ?_; (case hd => rfl); (case hg => rfl); (case hr => first | (go_simp; done) | (go_simp; rfl)); intro gb164 hg w8 hbox hb; have n0_ := Aside0.mk (blk_below (g := gb163) (o := .cells #[.int .u16 a0_0, .int .u16 a0_1, .int .u16 a0_2, .slice A0_3 l0_3.length c0_3] 43 (0, 0)) (by (with_reducible repeat (first | refine blk_drewN ?_ _ | refine blk_drew ?_ | refine blk_alloc ?_ _)); exact BK163.out) hb); have n1_ := Aside0.mk (below_step (by repeat (first | (with_reducible first | exact HB.out | apply below_alloc | apply pw_below_drewN | apply below_drew1 | refine below_set ?_ GE163.out) | exact HB.out)) hb); have n2_ := Aside0.mk (hbox); have n3_ := Aside0.mk ((by rw [hg]; exact (below_size (by repeat (first | (with_reducible first | exact HB.out | apply below_alloc | apply pw_below_drewN | apply below_drew1 | refine below_set ?_ GE163.out) | exact HB.out))) : w.heap.size ≤ gb164)); have n4_ := Aside0.mk ((by rw [hg]; exact (below_size (by repeat (first | (with_reducible first | exact HB.out | apply below_alloc | apply pw_below_drewN | apply below_drew1 | refine below_set ?_ GE163.out) | exact HB.out))) : w.heap.size ≤ gb164)); have n5_ := Aside0.mk ((by rw [hg]; exact Nat.ne_of_lt (blk_lt (g := gb163) (o := .cells #[.int .u16 a0_0, .int .u16 a0_1, .int .u16 a0_2, .slice A0_3 l0_3.length c0_3] 43 (0, 0)) (by (with_reducible repeat (first | refine blk_drewN ?_ _ | refine blk_drew ?_ | refine blk_alloc ?_ _)); exact BK163.out)) : gb163 ≠ gb164)); have n6_ := Aside0.mk ((by rw [hg]; exact Nat.ne_of_gt (blk_lt (g := gb163) (o := .cells #[.int .u16 a0_0, .int .u16 a0_1, .int .u16 a0_2, .slice A0_3 l0_3.length c0_3] 43 (0, 0)) (by (with_reducible repeat (first | refine blk_drewN ?_ _ | refine blk_drew ?_ | refine blk_alloc ?_ _)); exact BK163.out)) : gb164 ≠ gb163)); clear BK163; clear HB; have BK163 := n0_; have HB := n1_; have BK164 := n2_; have GW164 := n3_; have GE164 := n4_; have NB163_164 := n5_; have NB164_163 := n6_; clear n0_ n1_ n2_ n3_ n4_ n5_ n6_; clear hb hbox hg; have hnb9 := NB163_164.out; have hnc9 := NB164_163.out; have hcz10_0 : w8.cell? ⟨gb163, 0, none⟩ = some (.int .u16 a0_0) := (blk_cell BK163.out 0).trans rfl; have hcz10_1 : w8.cell? ⟨gb163, 1, none⟩ = some (.int .u16 a0_1) := (blk_cell BK163.out 1).trans rfl; have hcz10_2 : w8.cell? ⟨gb163, 2, none⟩ = some (.int .u16 a0_2) := (blk_cell BK163.out 2).trans rfl; have hcz10_3 : w8.cell? ⟨gb163, 3, none⟩ = some (.slice A0_3 l0_3.length c0_3) := (blk_cell BK163.out 3).trans rfl; have hfz10_0 := blk_frozen BK163.out 0; have hfz10_1 := blk_frozen BK163.out 1; have hfz10_2 := blk_frozen BK163.out 2; have hfz10_3 := blk_frozen BK163.out 3; have hcz11_0 : w8.cell? ⟨gb164, 0, none⟩ = some (.int .u16 a1_0) := (blk_cell BK164.out 0).trans rfl; have hcz11_1 : w8.cell? ⟨gb164, 1, none⟩ = some (.int .u16 a1_1) := (blk_cell BK164.out 1).trans rfl; have hcz11_2 : w8.cell? ⟨gb164, 2, none⟩ = some (.int .u16 a1_2) := (blk_cell BK164.out 2).trans rfl; have hcz11_3 : w8.cell? ⟨gb164, 3, none⟩ = some (.slice A1_3 l1_3.length c1_3) := (blk_cell BK164.out 3).trans rfl; have hfz11_0 := blk_frozen BK164.out 0; have hfz11_1 := blk_frozen BK164.out 1; have hfz11_2 := blk_frozen BK164.out 2; have hfz11_3 := blk_frozen BK164.out 3) | (go_at_call 51; (with_reducible refine (slices_Equal_uint16_uint16.calls k _ _ l0_3 _ _ l1_3 t165 _ ?side1 ?side2 ?side3 ?side4 A6.out).mono ?_); (case side1 => repeat (first | exact (Kd.C_below HR0_3.out HB.out) | (with_reducible refine Kd.C_alloc ?_ _) | (with_reducible refine Kd.C_drewN ?_ _) | (with_reducible refine Kd.C_drew ?_))); (case side2 => exact HC0_3.out); (case side3 => repeat (first | exact (Kd.C_below HR1_3.out HB.out) | (with_reducible refine Kd.C_alloc ?_ _) | (with_reducible refine Kd.C_drewN ?_ _) | (with_reducible refine Kd.C_drew ?_))); (case side4 => exact HC1_3.out); rintro e w' ⟨rfl, ⟨nd, rfl⟩⟩))
        go_ret
        exact ⟨by first | rfl | (simp [errW_none, errW_some] <;> rfl) | (simp [*, errW_none, errW_some] <;> rfl), by repeat (first | (with_reducible first | exact HB.out | apply below_alloc | apply pw_below_drewN | apply below_drew1 | refine below_set ?_ GE163.out | refine below_set ?_ GE164.out) | exact HB.out)⟩
      · rw [if_neg c5] at H
        have c5b0 : (a0_2 == a1_2) = false := beq_eq_false_iff_ne.mpr c5
        have c5b1 : (a0_2 != a1_2) = true := bne_iff_ne.mpr c5
        obtain rfl := Option.some.inj H
        go_enter Try.func54, Try.ntmps54
        go_wp2_with (first | ((with_reducible refine gate_dst (N := 2) rfl ?_); refine box_event ?hg (N := 2) ?hd (cs := #[.int .u16 a0_0, .int .u16 a0_1, .int .u16 a0_2, .slice A0_3 l0_3.length c0_3]) (t := 43) ?hr ?_; (case hd => rfl); (case hg => rfl); (case hr => first | (go_simp; done) | (go_simp; rfl)); intro gb163 hg w12 hbox hb; have n0_ := Aside0.mk (below_step (by repeat (first | (with_reducible first | exact HB.out | apply below_alloc | apply pw_below_drewN | apply below_drew1) | exact HB.out)) hb); have n1_ := Aside0.mk (hbox); have n2_ := Aside0.mk ((by rw [hg]; exact (below_size (by repeat (first | (with_reducible first | exact HB.out | apply below_alloc | apply pw_below_drewN | apply below_drew1) | exact HB.out))) : w.heap.size ≤ gb163)); have n3_ := Aside0.mk ((by rw [hg]; exact (below_size (by repeat (first | (with_reducible first | exact HB.out | apply below_alloc | apply pw_below_drewN | apply below_drew1) | exact HB.out))) : w.heap.size ≤ gb163)); clear HB; have HB := n0_; have BK163 := n1_; have GW163 := n2_; have GE163 := n3_; clear n0_ n1_ n2_ n3_; clear hb hbox hg) | ((with_reducible refine gate_dst (N := 3) rfl ?_); refine box_event ?hg (N := 3) ?hd (cs := #[.int .u16 a1_0, .int .u16 a1_1, .int .u16 a1_2, .slice A1_3 l1_3.length c1_3]) (t := 43) ?hr ?_; (case hd => rfl); (case hg => rfl); (case hr => first | (go_simp; done) | (go_simp; rfl)); intro gb164 hg w13 hbox hb; have n0_ := Aside0.mk (blk_below (g := gb163) (o := .cells #[.int .u16 a0_0, .int .u16 a0_1, .int .u16 a0_2, .slice A0_3 l0_3.length c0_3] 43 (0, 0)) (by (with_reducible repeat (first | refine blk_drewN ?_ _ | refine blk_drew ?_ | refine blk_alloc ?_ _)); exact BK163.out) hb); have n1_ := Aside0.mk (below_step (by repeat (first | (with_reducible first | exact HB.out | apply below_alloc | apply pw_below_drewN | apply below_drew1 | refine below_set ?_ GE163.out) | exact HB.out)) hb); have n2_ := Aside0.mk (hbox); have n3_ := Aside0.mk ((by rw [hg]; exact (below_size (by repeat (first | (with_reducible first | exact HB.out | apply below_alloc | apply pw_below_drewN | apply below_drew1 | refine below_set ?_ GE163.out) | exact HB.out))) : w.heap.size ≤ gb164)); have n4_ := Aside0.mk ((by rw [hg]; exact (below_size (by repeat (first | (with_reducible first | exact HB.out | apply below_alloc | apply pw_below_drewN | apply below_drew1 | refine below_set ?_ GE163.out) | exact HB.out))) : w.heap.size ≤ gb164)); have n5_ := Aside0.mk ((by rw [hg]; exact Nat.ne_of_lt (blk_lt (g := gb163) (o := .cells #[.int .u16 a0_0, .int .u16 a0_1, .int .u16 a0_2, .slice A0_3 l0_3.length c0_3] 43 (0, 0)) (by (with_reducible repeat (first | refine blk_drewN ?_ _ | refine blk_drew ?_ | refine blk_alloc ?_ _)); exact BK163.out)) : gb163 ≠ gb164)); have n6_ := Aside0.mk ((by rw [hg]; exact Nat.ne_of_gt (blk_lt (g := gb163) (o := .cells #[.int .u16 a0_0, .int .u16 a0_1, .int .u16 a0_2, .slice A0_3 l0_3.length c0_3] 43 (0, 0)) (by (with_reducible repeat (first | refine blk_drewN ?_ _ | refine blk_drew ?_ | refine blk_alloc ?_ _)); exact BK163.out)) : gb164 ≠ gb163)); clear BK163; clear HB; have BK163 := n0_; have HB := n1_; have BK164 := n2_; have GW164 := n3_; have GE164 := n4_; have NB163_164 := n5_; have NB164_163 := n6_; clear n0_ n1_ n2_ n3_ n4_ n5_ n6_; clear hb hbox hg; have hnb14 := NB163_164.out; have hnc14 := NB164_163.out; have hcz15_0 : w13.cell? ⟨gb163, 0, none⟩ = some (.int .u16 a0_0) := (blk_cell BK163.out 0).trans rfl; have hcz15_1 : w13.cell? ⟨gb163, 1, none⟩ = some (.int .u16 a0_1) := (blk_cell BK163.out 1).trans rfl; have hcz15_2 : w13.cell? ⟨gb163, 2, none⟩ = some (.int .u16 a0_2) := (blk_cell BK163.out 2).trans rfl; have hcz15_3 : w13.cell? ⟨gb163, 3, none⟩ = some (.slice A0_3 l0_3.length c0_3) := (blk_cell BK163.out 3).trans rfl; have hfz15_0 := blk_frozen BK163.out 0; have hfz15_1 := blk_frozen BK163.out 1; have hfz15_2 := blk_frozen BK163.out 2; have hfz15_3 := blk_frozen BK163.out 3; have hcz16_0 : w13.cell? ⟨gb164, 0, none⟩ = some (.int .u16 a1_0) := (blk_cell BK164.out 0).trans rfl; have hcz16_1 : w13.cell? ⟨gb164, 1, none⟩ = some (.int .u16 a1_1) := (blk_cell BK164.out 1).trans rfl; have hcz16_2 : w13.cell? ⟨gb164, 2, none⟩ = some (.int .u16 a1_2) := (blk_cell BK164.out 2).trans rfl; have hcz16_3 : w13.cell? ⟨gb164, 3, none⟩ = some (.slice A1_3 l1_3.length c1_3) := (blk_cell BK164.out 3).trans rfl; have hfz16_0 := blk_frozen BK164.out 0; have hfz16_1 := blk_frozen BK164.out 1; have hfz16_2 := blk_frozen BK164.out 2; have hfz16_3 := blk_frozen BK164.out 3))
        go_ret
        exact ⟨by first | rfl | (simp [errW_none, errW_some] <;> rfl) | (simp [*, errW_none, errW_some] <;> rfl), by repeat (first | (with_reducible first | exact HB.out | apply below_alloc | apply pw_below_drewN | apply below_drew1 | refine below_set ?_ GE163.out | refine below_set ?_ GE164.out) | exact HB.out)⟩
    · rw [if_neg c4] at H
      have c4b0 : (a0_1 == a1_1) = false := beq_eq_false_iff_ne.mpr c4
      have c4b1 : (a0_1 != a1_1) = true := bne_iff_ne.mpr c4
      obtain rfl := Option.some.inj H
      go_enter Try.func54, Try.ntmps54
      go_wp2_with (first | ((with_reducible refine gate_dst (N := 2) rfl ?_); refine box_event ?hg (N := 2) ?hd (cs := #[.int .u16 a0_0, .int .u16 a0_1, .int .u16 a0_2, .slice A0_3 l0_3.length c0_3]) (t := 43) ?hr ?_; (case hd => rfl); (case hg => rfl); (case hr => first | (go_simp; done) | (go_simp; rfl)); intro gb163 hg w17 hbox hb; have n0_ := Aside0.mk (below_step (by repeat (first | (with_reducible first | exact HB.out | apply below_alloc | apply pw_below_drewN | apply below_drew1) | exact HB.out)) hb); have n1_ := Aside0.mk (hbox); have n2_ := Aside0.mk ((by rw [hg]; exact (below_size (by repeat (first | (with_reducible first | exact HB.out | apply below_alloc | apply pw_below_drewN | apply below_drew1) | exact HB.out))) : w.heap.size ≤ gb163)); have n3_ := Aside0.mk ((by rw [hg]; exact (below_size (by repeat (first | (with_reducible first | exact HB.out | apply below_alloc | apply pw_below_drewN | apply below_drew1) | exact HB.out))) : w.heap.size ≤ gb163)); clear HB; have HB := n0_; have BK163 := n1_; have GW163 := n2_; have GE163 := n3_; clear n0_ n1_ n2_ n3_; clear hb hbox hg) | ((with_reducible refine gate_dst (N := 3) rfl ?_); refine box_event ?hg (N := 3) ?hd (cs := #[.int .u16 a1_0, .int .u16 a1_1, .int .u16 a1_2, .slice A1_3 l1_3.length c1_3]) (t := 43) ?hr ?_; (case hd => rfl); (case hg => rfl); (case hr => first | (go_simp; done) | (go_simp; rfl)); intro gb164 hg w18 hbox hb; have n0_ := Aside0.mk (blk_below (g := gb163) (o := .cells #[.int .u16 a0_0, .int .u16 a0_1, .int .u16 a0_2, .slice A0_3 l0_3.length c0_3] 43 (0, 0)) (by (with_reducible repeat (first | refine blk_drewN ?_ _ | refine blk_drew ?_ | refine blk_alloc ?_ _)); exact BK163.out) hb); have n1_ := Aside0.mk (below_step (by repeat (first | (with_reducible first | exact HB.out | apply below_alloc | apply pw_below_drewN | apply below_drew1 | refine below_set ?_ GE163.out) | exact HB.out)) hb); have n2_ := Aside0.mk (hbox); have n3_ := Aside0.mk ((by rw [hg]; exact (below_size (by repeat (first | (with_reducible first | exact HB.out | apply below_alloc | apply pw_below_drewN | apply below_drew1 | refine below_set ?_ GE163.out) | exact HB.out))) : w.heap.size ≤ gb164)); have n4_ := Aside0.mk ((by rw [hg]; exact (below_size (by repeat (first | (with_reducible first | exact HB.out | apply below_alloc | apply pw_below_drewN | apply below_drew1 | refine below_set ?_ GE163.out) | exact HB.out))) : w.heap.size ≤ gb164)); have n5_ := Aside0.mk ((by rw [hg]; exact Nat.ne_of_lt (blk_lt (g := gb163) (o := .cells #[.int .u16 a0_0, .int .u16 a0_1, .int .u16 a0_2, .slice A0_3 l0_3.length c0_3] 43 (0, 0)) (by (with_reducible repeat (first | refine blk_drewN ?_ _ | refine blk_drew ?_ | refine blk_alloc ?_ _)); exact BK163.out)) : gb163 ≠ gb164)); have n6_ := Aside0.mk ((by rw [hg]; exact Nat.ne_of_gt (blk_lt (g := gb163) (o := .cells #[.int .u16 a0_0, .int .u16 a0_1, .int .u16 a0_2, .slice A0_3 l0_3.length c0_3] 43 (0, 0)) (by (with_reducible repeat (first | refine blk_drewN ?_ _ | refine blk_drew ?_ | refine blk_alloc ?_ _)); exact BK163.out)) : gb164 ≠ gb163)); clear BK163; clear HB; have BK163 := n0_; have HB := n1_; have BK164 := n2_; have GW164 := n3_; have GE164 := n4_; have NB163_164 := n5_; have NB164_163 := n6_; clear n0_ n1_ n2_ n3_ n4_ n5_ n6_; clear hb hbox hg; have hnb19 := NB163_164.out; have hnc19 := NB164_163.out; have hcz20_0 : w18.cell? ⟨gb163, 0, none⟩ = some (.int .u16 a0_0) := (blk_cell BK163.out 0).trans rfl; have hcz20_1 : w18.cell? ⟨gb163, 1, none⟩ = some (.int .u16 a0_1) := (blk_cell BK163.out 1).trans rfl; have hcz20_2 : w18.cell? ⟨gb163, 2, none⟩ = some (.int .u16 a0_2) := (blk_cell BK163.out 2).trans rfl; have hcz20_3 : w18.cell? ⟨gb163, 3, none⟩ = some (.slice A0_3 l0_3.length c0_3) := (blk_cell BK163.out 3).trans rfl; have hfz20_0 := blk_frozen BK163.out 0; have hfz20_1 := blk_frozen BK163.out 1; have hfz20_2 := blk_frozen BK163.out 2; have hfz20_3 := blk_frozen BK163.out 3; have hcz21_0 : w18.cell? ⟨gb164, 0, none⟩ = some (.int .u16 a1_0) := (blk_cell BK164.out 0).trans rfl; have hcz21_1 : w18.cell? ⟨gb164, 1, none⟩ = some (.int .u16 a1_1) := (blk_cell BK164.out 1).trans rfl; have hcz21_2 : w18.cell? ⟨gb164, 2, none⟩ = some (.int .u16 a1_2) := (blk_cell BK164.out 2).trans rfl; have hcz21_3 : w18.cell? ⟨gb164, 3, none⟩ = some (.slice A1_3 l1_3.length c1_3) := (blk_cell BK164.out 3).trans rfl; have hfz21_0 := blk_frozen BK164.out 0; have hfz21_1 := blk_frozen BK164.out 1; have hfz21_2 := blk_frozen BK164.out 2; have hfz21_3 := blk_frozen BK164.out 3))
      go_ret
      exact ⟨by first | rfl | (simp [errW_none, errW_some] <;> rfl) | (simp [*, errW_none, errW_some] <;> rfl), by repeat (first | (with_reducible first | exact HB.out | apply below_alloc | apply pw_below_drewN | apply below_drew1 | refine below_set ?_ GE163.out | refine below_set ?_ GE164.out) | exact HB.out)⟩
  · rw [if_neg c3] at H
    have c3b0 : (a0_0 == a1_0) = false := beq_eq_false_iff_ne.mpr c3
    have c3b1 : (a0_0 != a1_0) = true := bne_iff_ne.mpr c3
    obtain rfl := Option.some.inj H
    go_enter Try.func54, Try.ntmps54
    go_wp2_with (first | ((with_reducible refine gate_dst (N := 2) rfl ?_); refine box_event ?hg (N := 2) ?hd (cs := #[.int .u16 a0_0, .int .u16 a0_1, .int .u16 a0_2, .slice A0_3 l0_3.length c0_3]) (t := 43) ?hr ?_; (case hd => rfl); (case hg => rfl); (case hr => first | (go_simp; done) | (go_simp; rfl)); intro gb163 hg w22 hbox hb; have n0_ := Aside0.mk (below_step (by repeat (first | (with_reducible first | exact HB.out | apply below_alloc | apply pw_below_drewN | apply below_drew1) | exact HB.out)) hb); have n1_ := Aside0.mk (hbox); have n2_ := Aside0.mk ((by rw [hg]; exact (below_size (by repeat (first | (with_reducible first | exact HB.out | apply below_alloc | apply pw_below_drewN | apply below_drew1) | exact HB.out))) : w.heap.size ≤ gb163)); have n3_ := Aside0.mk ((by rw [hg]; exact (below_size (by repeat (first | (with_reducible first | exact HB.out | apply below_alloc | apply pw_below_drewN | apply below_drew1) | exact HB.out))) : w.heap.size ≤ gb163)); clear HB; have HB := n0_; have BK163 := n1_; have GW163 := n2_; have GE163 := n3_; clear n0_ n1_ n2_ n3_; clear hb hbox hg) | ((with_reducible refine gate_dst (N := 3) rfl ?_); refine box_event ?hg (N := 3) ?hd (cs := #[.int .u16 a1_0, .int .u16 a1_1, .int .u16 a1_2, .slice A1_3 l1_3.length c1_3]) (t := 43) ?hr ?_; (case hd => rfl); (case hg => rfl); (case hr => first | (go_simp; done) | (go_simp; rfl)); intro gb164 hg w23 hbox hb; have n0_ := Aside0.mk (blk_below (g := gb163) (o := .cells #[.int .u16 a0_0, .int .u16 a0_1, .int .u16 a0_2, .slice A0_3 l0_3.length c0_3] 43 (0, 0)) (by (with_reducible repeat (first | refine blk_drewN ?_ _ | refine blk_drew ?_ | refine blk_alloc ?_ _)); exact BK163.out) hb); have n1_ := Aside0.mk (below_step (by repeat (first | (with_reducible first | exact HB.out | apply below_alloc | apply pw_below_drewN | apply below_drew1 | refine below_set ?_ GE163.out) | exact HB.out)) hb); have n2_ := Aside0.mk (hbox); have n3_ := Aside0.mk ((by rw [hg]; exact (below_size (by repeat (first | (with_reducible first | exact HB.out | apply below_alloc | apply pw_below_drewN | apply below_drew1 | refine below_set ?_ GE163.out) | exact HB.out))) : w.heap.size ≤ gb164)); have n4_ := Aside0.mk ((by rw [hg]; exact (below_size (by repeat (first | (with_reducible first | exact HB.out | apply below_alloc | apply pw_below_drewN | apply below_drew1 | refine below_set ?_ GE163.out) | exact HB.out))) : w.heap.size ≤ gb164)); have n5_ := Aside0.mk ((by rw [hg]; exact Nat.ne_of_lt (blk_lt (g := gb163) (o := .cells #[.int .u16 a0_0, .int .u16 a0_1, .int .u16 a0_2, .slice A0_3 l0_3.length c0_3] 43 (0, 0)) (by (with_reducible repeat (first | refine blk_drewN ?_ _ | refine blk_drew ?_ | refine blk_alloc ?_ _)); exact BK163.out)) : gb163 ≠ gb164)); have n6_ := Aside0.mk ((by rw [hg]; exact Nat.ne_of_gt (blk_lt (g := gb163) (o := .cells #[.int .u16 a0_0, .int .u16 a0_1, .int .u16 a0_2, .slice A0_3 l0_3.length c0_3] 43 (0, 0)) (by (with_reducible repeat (first | refine blk_drewN ?_ _ | refine blk_drew ?_ | refine blk_alloc ?_ _)); exact BK163.out)) : gb164 ≠ gb163)); clear BK163; clear HB; have BK163 := n0_; have HB := n1_; have BK164 := n2_; have GW164 := n3_; have GE164 := n4_; have NB163_164 := n5_; have NB164_163 := n6_; clear n0_ n1_ n2_ n3_ n4_ n5_ n6_; clear hb hbox hg; have hnb24 := NB163_164.out; have hnc24 := NB164_163.out; have hcz25_0 : w23.cell? ⟨gb163, 0, none⟩ = some (.int .u16 a0_0) := (blk_cell BK163.out 0).trans rfl; have hcz25_1 : w23.cell? ⟨gb163, 1, none⟩ = some (.int .u16 a0_1) := (blk_cell BK163.out 1).trans rfl; have hcz25_2 : w23.cell? ⟨gb163, 2, none⟩ = some (.int .u16 a0_2) := (blk_cell BK163.out 2).trans rfl; have hcz25_3 : w23.cell? ⟨gb163, 3, none⟩ = some (.slice A0_3 l0_3.length c0_3) := (blk_cell BK163.out 3).trans rfl; have hfz25_0 := blk_frozen BK163.out 0; have hfz25_1 := blk_frozen BK163.out 1; have hfz25_2 := blk_frozen BK163.out 2; have hfz25_3 := blk_frozen BK163.out 3; have hcz26_0 : w23.cell? ⟨gb164, 0, none⟩ = some (.int .u16 a1_0) := (blk_cell BK164.out 0).trans rfl; have hcz26_1 : w23.cell? ⟨gb164, 1, none⟩ = some (.int .u16 a1_1) := (blk_cell BK164.out 1).trans rfl; have hcz26_2 : w23.cell? ⟨gb164, 2, none⟩ = some (.int .u16 a1_2) := (blk_cell BK164.out 2).trans rfl; have hcz26_3 : w23.cell? ⟨gb164, 3, none⟩ = some (.slice A1_3 l1_3.length c1_3) := (blk_cell BK164.out 3).trans rfl; have hfz26_0 := blk_frozen BK164.out 0; have hfz26_1 := blk_frozen BK164.out 1; have hfz26_2 := blk_frozen BK164.out 2; have hfz26_3 := blk_frozen BK164.out 3))
    go_ret
    exact ⟨by first | rfl | (simp [errW_none, errW_some] <;> rfl) | (simp [*, errW_none, errW_some] <;> rfl), by repeat (first | (with_reducible first | exact HB.out | apply below_alloc | apply pw_below_drewN | apply below_drew1 | refine below_set ?_ GE163.out | refine below_set ?_ GE164.out) | exact HB.out)⟩
end Go.Proofs.Ytdjeekpgcjcffaa.P
end
section
namespace Go.Proofs.Ytdjeekpgcjcffaa.P
open Go.RowKit Go.Proofs.YtdjeekpgcjcffaaW.PrintWords Go.Proofs.YtdjeekpgcjcffaaW.PrintLast Go.Proofs.YtdjeekpgcjcffaaW.PrintMore
attribute [local go_sem] max2_int min2_int max_two min_two max_three min_three max_four min_four   -- for this text's walks alone
def code_object.f (a0_0 : Int) (l0_1 : List Int) (a1_0 : Int) (l1_1 : List Int) : Option (Bool) := if a0_0 = a1_0 then (some ((strOfNums l0_1).toList == (strOfNums l1_1).toList)) else (some false)
theorem code_object.calls (a0_0 : Int) (A0_1 : Option Addr) (c0_1 : Nat) (l0_1 : List Int) (a1_0 : Int) (A1_1 : Option Addr) (c1_1 : Nat) (l1_1 : List Int) (r : Bool) (w : World) (hr0_1 : Kd.C (Kd.int .u8) w A0_1 l0_1.length l0_1) (hc0_1 : l0_1.length ≤ c0_1) (hr1_1 : Kd.C (Kd.int .u8) w A1_1 l1_1.length l1_1) (hc1_1 : l1_1.length ≤ c1_1) (h : code_object.f a0_0 l0_1 a1_0 l1_1 = some r) :
    Calls Try.prog 56 #[.agg #[.int .u8 a0_0, .slice A0_1 l0_1.length c0_1], .agg #[.int .u8 a1_0, .slice A1_1 l1_1.length c1_1]] w fun e w' => e = .returned (.bool r) ∧ Below w.heap.size w w' := by
  have hu69 := Try.underlying69
  have HR0_1 := Aside0.mk hr0_1
  have HC0_1 := Aside0.mk hc0_1
  clear hr0_1 hc0_1
  have HR1_1 := Aside0.mk hr1_1
  have HC1_1 := Aside0.mk hc1_1
  clear hr1_1 hc1_1
  have HB := Aside0.mk (Below.refl w.heap.size w)
  have H : (if a0_0 = a1_0 then (some ((strOfNums l0_1).toList == (strOfNums l1_1).toList)) else (some false)) = some r := h
  clear h
  by_cases c3 : a0_0 = a1_0
  · rw [if_pos c3] at H
    have c3b0 : (a0_0 == a1_0) = true := beq_iff_eq.mpr c3
    have c3b1 : (a0_0 != a1_0) = false := bne_eq_false_iff_eq.mpr c3
    clear c3
    obtain rfl := Option.some.inj H
    go_enter Try.func56, Try.ntmps56
    go_wp2_with (first | ((with_reducible refine gate_dst (N := 2) rfl ?_); refine box_event ?hg (N := 2) ?hd (cs := #[.int .u8 a0_0, .slice A0_1 l0_1.length c0_1]) (t := 69) ?hr ?_; (case hd => rfl); (case hg => rfl); (case hr => first | (go_simp; done) | (go_simp; rfl)); intro gb166 hg w4 hbox hb; have n0_ := Aside0.mk (below_step (by repeat (first | (with_reducible first | exact HB.out | apply below_alloc | apply pw_below_drewN | apply below_drew1) | exact HB.out)) hb); have n1_ := Aside0.mk (hbox); have n2_ := Aside0.mk ((by rw [hg]; exact (below_size (by repeat (first | (with_reducible first | exact HB.out | apply below_alloc | apply pw_below_drewN | apply below_drew1) | exact HB.out))) : w.heap.size ≤ gb166)); have n3_ := Aside0.mk ((by rw [hg]; exact (below_size (by repeat (first | (with_reducible first | exact HB.out | apply below_alloc | apply pw_below_drewN | apply below_drew1) | exact HB.out))) : w.heap.size ≤ gb166)); clear HB; have HB := n0_; have BK166 := n1_; have GW166 := n2_; have GE166 := n3_; clear n0_ n1_ n2_ n3_; clear hb hbox hg) | ((with_reducible refine gate_dst (N := 3) rfl ?_); refine box_event ?hg (N := 3) ?hd (cs := #[.int .u8 a1_0, .slice A1_1 l1_1.length c1_1]) (t := 69) ?hr ?_; (case hd => rfl); (case hg => rfl); (case hr => first | (go_simp; done) | (go_simp; rfl)); intro gb167 hg w5 hbox hb; have n0_ := Aside0.mk (blk_below (g := gb166) (o := .cells #[.int .u8 a0_0, .slice A0_1 l0_1.length c0_1] 69 (0, 0)) (by (with_reducible repeat (first | refine blk_drewN ?_ _ | refine blk_drew ?_ | refine blk_alloc ?_ _)); exact BK166.out) hb); have n1_ := Aside0.mk (below_step (by repeat (first | (with_reducible first | exact HB.out | apply below_alloc | apply pw_below_drewN | apply below_drew1 | refine below_set ?_ GE166.out) | exact HB.out)) hb); have n2_ := Aside0.mk (hbox); have n3_ := Aside0.mk ((by rw [hg]; exact (below_size (by repeat (first | (with_reducible first | exact HB.out | apply below_alloc | apply pw_below_drewN | apply below_drew1 | refine below_set ?_ GE166.out) | exact HB.out))) : w.heap.size ≤ gb167)); have n4_ := Aside0.mk ((by rw [hg]; exact (below_size (by repeat (first | (with_reducible first | exact HB.out | apply below_alloc | apply pw_below_drewN | apply below_drew1 | refine below_set ?_ GE166.out) | exact HB.out))) : w.heap.size ≤ gb167)); have n5_ := Aside0.mk ((by rw [hg]; exact Nat.ne_of_lt (blk_lt (g := gb166) (o := .cells #[.int .u8 a0_0, .slice A0_1 l0_1.length c0_1] 69 (0, 0)) (by (with_reducible repeat (first | refine blk_drewN ?_ _ | refine blk_drew ?_ | refine blk_alloc ?_ _)); exact BK166.out)) : gb166 ≠ gb167)); have n6_ := Aside0.mk ((by rw [hg]; exact Nat.ne_of_gt (blk_lt (g := gb166) (o := .cells #[.int .u8 a0_0, .slice A0_1 l0_1.length c0_1] 69 (0, 0)) (by (with_reducible repeat (first | refine blk_drewN ?_ _ | refine blk_drew ?_ | refine blk_alloc ?_ _)); exact BK166.out)) : gb167 ≠ gb166)); clear BK166; clear HB; have BK166 := n0_; have HB := n1_; have BK167 := n2_; have GW167 := n3_; have GE167 := n4_; have NB166_167 := n5_; have NB167_166 := n6_; clear n0_ n1_ n2_ n3_ n4_ n5_ n6_; clear hb hbox hg; have hnb6 := NB166_167.out; have hnc6 := NB167_166.out; have hcz7_0 : w5.cell? ⟨gb166, 0, none⟩ = some (.int .u8 a0_0) := (blk_cell BK166.out 0).trans rfl; have hcz7_1 : w5.cell? ⟨gb166, 1, none⟩ = some (.slice A0_1 l0_1.length c0_1) := (blk_cell BK166.out 1).trans rfl; have hfz7_0 := blk_frozen BK166.out 0; have hfz7_1 := blk_frozen BK166.out 1; have hcz8_0 : w5.cell? ⟨gb167, 0, none⟩ = some (.int .u8 a1_0) := (blk_cell BK167.out 0).trans rfl; have hcz8_1 : w5.cell? ⟨gb167, 1, none⟩ = some (.slice A1_1 l1_1.length c1_1) := (blk_cell BK167.out 1).trans rfl; have hfz8_0 := blk_frozen BK167.out 0; have hfz8_1 := blk_frozen BK167.out 1; have hcv9 := Kd.C_string (P := Try.prog) (A := A0_1) (c := c0_1) Try.underlying22 Try.underlying5 Try.underlying9 (Kd.C_below HR0_1.out HB.out); have hcv10 := Kd.C_string (P := Try.prog) (A := A1_1) (c := c1_1) Try.underlying22 Try.underlying5 Try.underlying9 (Kd.C_below HR1_1.out HB.out)))
    go_ret
    exact ⟨by first | rfl | (simp [errW_none, errW_some] <;> rfl) | (simp [*, errW_none, errW_some] <;> rfl), by repeat (first | (with_reducible first | exact HB.out | apply below_alloc | apply pw_below_drewN | apply below_drew1 | refine below_set ?_ GE166.out | refine below_set ?_ GE167.out) | exact HB.out)⟩
  · rw [if_neg c3] at H
    have c3b0 : (a0_0 == a1_0) = false := beq_eq_false_iff_ne.mpr c3
    have c3b1 : (a0_0 != a1_0) = true := bne_iff_ne.mpr c3
    obtain rfl := Option.some.inj H
    go_enter Try.func56, Try.ntmps56
    go_wp2_with (first | ((with_reducible refine gate_dst (N := 2) rfl ?_); refine box_event ?hg (N := 2) ?hd (cs := #[.int .u8 a0_0, .slice A0_1 l0_1.length c0_1]) (t := 69) ?hr ?_; (case hd => rfl); (case hg => rfl); (case hr => first | (go_simp; done) | (go_simp; rfl)); intro gb166 hg w11 hbox hb; have n0_ := Aside0.mk (below_step (by repeat (first | (with_reducible first | exact HB.out | apply below_alloc | apply pw_below_drewN | apply below_drew1) | exact HB.out)) hb); have n1_ := Aside0.mk (hbox); have n2_ := Aside0.mk ((by rw [hg]; exact (below_size (by repeat (first | (with_reducible first | exact HB.out | apply below_alloc | apply pw_below_drewN | apply below_drew1) | exact HB.out))) : w.heap.size ≤ gb166)); have n3_ := Aside0.mk ((by rw [hg]; exact (below_size (by repeat (first | (with_reducible first | exact HB.out | apply below_alloc | apply pw_below_drewN | apply below_drew1) | exact HB.out))) : w.heap.size ≤ gb166)); clear HB; have HB := n0_; have BK166 := n1_; have GW166 := n2_; have GE166 := n3_; clear n0_ n1_ n2_ n3_; clear hb hbox hg) | ((with_reducible refine gate_dst (N := 3) rfl ?_); refine box_event ?hg (N := 3) ?hd (cs := #[.int .u8 a1_0, .slice A1_1 l1_1.length c1_1]) (t := 69) ?hr ?_; (case hd => rfl); (case hg => rfl); (case hr => first | (go_simp; done) | (go_simp; rfl)); intro gb167 hg w12 hbox hb; have n0_ := Aside0.mk (blk_below (g := gb166) (o := .cells #[.int .u8 a0_0, .slice A0_1 l0_1.length c0_1] 69 (0, 0)) (by (with_reducible repeat (first | refine blk_drewN ?_ _ | refine blk_drew ?_ | refine blk_alloc ?_ _)); exact BK166.out) hb); have n1_ := Aside0.mk (below_step (by repeat (first | (with_reducible first | exact HB.out | apply below_alloc | apply pw_below_drewN | apply below_drew1 | refine below_set ?_ GE166.out) | exact HB.out)) hb); have n2_ := Aside0.mk (hbox); have n3_ := Aside0.mk ((by rw [hg]; exact (below_size (by repeat (first | (with_reducible first | exact HB.out | apply below_alloc | apply pw_below_drewN | apply below_drew1 | refine below_set ?_ GE166.out) | exact HB.out))) : w.heap.size ≤ gb167)); have n4_ := Aside0.mk ((by rw [hg]; exact (below_size (by repeat (first | (with_reducible first | exact HB.out | apply below_alloc | apply pw_below_drewN | apply below_drew1 | refine below_set ?_ GE166.out) | exact HB.out))) : w.heap.size ≤ gb167)); have n5_ := Aside0.mk ((by rw [hg]; exact Nat.ne_of_lt (blk_lt (g := gb166) (o := .cells #[.int .u8 a0_0, .slice A0_1 l0_1.length c0_1] 69 (0, 0)) (by (with_reducible repeat (first | refine blk_drewN ?_ _ | refine blk_drew ?_ | refine blk_alloc ?_ _)); exact BK166.out)) : gb166 ≠ gb167)); have n6_ := Aside0.mk ((by rw [hg]; exact Nat.ne_of_gt (blk_lt (g := gb166) (o := .cells #[.int .u8 a0_0, .slice A0_1 l0_1.length c0_1] 69 (0, 0)) (by (with_reducible repeat (first | refine blk_drewN ?_ _ | refine blk_drew ?_ | refine blk_alloc ?_ _)); exact BK166.out)) : gb167 ≠ gb166)); clear BK166; clear HB; have BK166 := n0_; have HB := n1_; have BK167 := n2_; have GW167 := n3_; have GE167 := n4_; have NB166_167 := n5_; have NB167_166 := n6_; clear n0_ n1_ n2_ n3_ n4_ n5_ n6_; clear hb hbox hg; have hnb13 := NB166_167.out; have hnc13 := NB167_166.out; have hcz14_0 : w12.cell? ⟨gb166, 0, none⟩ = some (.int .u8 a0_0) := (blk_cell BK166.out 0).trans rfl; have hcz14_1 : w12.cell? ⟨gb166, 1, none⟩ = some (.slice A0_1 l0_1.length c0_1) := (blk_cell BK166.out 1).trans rfl; have hfz14_0 := blk_frozen BK166.out 0; have hfz14_1 := blk_frozen BK166.out 1; have hcz15_0 : w12.cell? ⟨gb167, 0, none⟩ = some (.int .u8 a1_0) := (blk_cell BK167.out 0).trans rfl; have hcz15_1 : w12.cell? ⟨gb167, 1, none⟩ = some (.slice A1_1 l1_1.length c1_1) := (blk_cell BK167.out 1).trans rfl; have hfz15_0 := blk_frozen BK167.out 0; have hfz15_1 := blk_frozen BK167.out 1))
    go_ret
    exact ⟨by first | rfl | (simp [errW_none, errW_some] <;> rfl) | (simp [*, errW_none, errW_some] <;> rfl), by repeat (first | (with_reducible first | exact HB.out | apply below_alloc | apply pw_below_drewN | apply below_drew1 | refine below_set ?_ GE166.out | refine below_set ?_ GE167.out) | exact HB.out)⟩
end Go.Proofs.Ytdjeekpgcjcffaa.P
end
section
namespace Go.Proofs.Ytdjeekpgcjcffaa.Same
open Go.RowKit Go.Proofs.Ytdjeekpgcjcffaa.P Go.Proofs.Ytdjeekpgcjcffaa.E Go.Proofs.YtdjeekpgcjcffaaW.PrintWords Go.Proofs.YtdjeekpgcjcffaaW.PrintLast Go.Proofs.YtdjeekpgcjcffaaW.PrintMore
structure Msg where
  code : Int
  fail : Int
  addr : Int
  count : Int
  value : Int
  and_ : Int
  or_ : Int
  addr2 : Int
  sub : Int
  status : Int
  events : Int
  messages : Int
  words : List Int
  bits : List Bool
  data : List Int
  recs : List S43
  mei : Int
  kind : Int
  level : Int
  more : Int
  next : Int
  objects : List S69
def u8B (x : Int) : Bool := decide (0 ≤ x) && decide (x < 256)
def u16B (x : Int) : Bool := decide (0 ≤ x) && decide (x < 65536)
def listB {α : Type} (f : α → α → Bool) : List α → List α → Bool
  | [], [] => true
  | x :: xs, y :: ys => f x y && listB f xs ys
  | _, _ => false
def recB (a b : S43) : Bool := a.f0 == b.f0 && a.f1 == b.f1 && a.f2 == b.f2 && a.f3 == b.f3
def objB (a b : S69) : Bool := a.f0 == b.f0 && a.f1 == b.f1
def plainB (x y : Msg) : Bool := x.code == y.code && x.fail == y.fail && x.addr == y.addr && x.count == y.count && x.value == y.value && x.and_ == y.and_ && x.or_ == y.or_ && x.addr2 == y.addr2 && x.sub == y.sub && x.status == y.status && x.events == y.events && x.messages == y.messages && x.mei == y.mei && x.kind == y.kind && x.level == y.level && x.more == y.more && x.next == y.next
def sameB (x y : Msg) : Bool := plainB x y && x.words == y.words && x.bits == y.bits && x.data == y.data && listB recB x.recs y.recs && listB objB x.objects y.objects
def okM (x : Msg) : Bool := u8B x.code && u8B x.fail && u16B x.addr && u16B x.count && u16B x.value && u16B x.and_ && u16B x.or_ && u16B x.addr2 && u16B x.sub && u16B x.status && u16B x.events && u16B x.messages && u8B x.mei && u8B x.kind && u8B x.level && u8B x.more && u8B x.next && x.data.all u8B && x.objects.all fun q => q.f1.all u8B
theorem info46 : (Try.prog.info? 24).map (fun i => (i.zero, i.size, i.bytes)) = some (some (.int .u16 0), 1, 2) := by kernel_rfl
def shB (a b : Int) : Int := Go.bits .or .u16 (a * 256) b
theorem plain_any (m : Msg) (Am12 : Option Addr) (cm12 : Nat) (Am13 : Option Addr) (cm13 : Nat) (Am14 : Option Addr) (cm14 : Nat) (Am15 : Option Addr) (cm15 : Nat) (Am21 : Option Addr) (cm21 : Nat) (w : World) (h00 : 0 ≤ m.code) (h01 : m.code < 256) (h10 : 0 ≤ m.fail) (h11 : m.fail < 256) (h160 : 0 ≤ m.mei) (h161 : m.mei < 256) (h170 : 0 ≤ m.kind) (h171 : m.kind < 256) (h180 : 0 ≤ m.level) (h181 : m.level < 256) (h190 : 0 ≤ m.more) (h191 : m.more < 256) (h200 : 0 ≤ m.next) (h201 : m.next < 256) :
    Calls Try.prog 50 #[.agg #[.int .u8 m.code, .int .u8 m.fail, .int .u16 m.addr, .int .u16 m.count, .int .u16 m.value, .int .u16 m.and_, .int .u16 m.or_, .int .u16 m.addr2, .int .u16 m.sub, .int .u16 m.status, .int .u16 m.events, .int .u16 m.messages, .slice Am12 m.words.length cm12, .slice Am13 m.bits.length cm13, .slice Am14 m.data.length cm14, .slice Am15 m.recs.length cm15, .int .u8 m.mei, .int .u8 m.kind, .int .u8 m.level, .int .u8 m.more, .int .u8 m.next, .slice Am21 m.objects.length cm21]] w fun e w' => e = .returned (.agg #[.int .u16 m.code, .int .u16 m.fail, .int .u16 m.addr, .int .u16 m.count, .int .u16 m.value, .int .u16 m.and_, .int .u16 m.or_, .int .u16 m.addr2, .int .u16 m.sub, .int .u16 m.status, .int .u16 m.events, .int .u16 m.messages, .int .u16 (shB m.mei m.kind), .int .u16 (shB m.level m.more), .int .u16 m.next]) ∧ Below w.heap.size w w' := by
  have hu1 := Try.underlying30
  have hu2 := Try.underlying82
  unfold shB
  go_enter Try.func50, Try.ntmps50
  go_wp2
  exact bodyPost_ret (v := .agg #[.int .u16 m.code, .int .u16 m.fail, .int .u16 m.addr, .int .u16 m.count, .int .u16 m.value, .int .u16 m.and_, .int .u16 m.or_, .int .u16 m.addr2, .int .u16 m.sub, .int .u16 m.status, .int .u16 m.events, .int .u16 m.messages, .int .u16 (Go.bits .or .u16 (m.mei * 256) m.kind), .int .u16 (Go.bits .or .u16 (m.level * 256) m.more), .int .u16 m.next]) (by simp [results, Try.results50, go_sem]) rfl ⟨rfl, ((Below.refl _ _).alloc (Nat.le_refl _) _).alloc (by simp) _⟩
section
variable {P : Program} {w : World} {d c e i : Nat} {xs ys : Array Value} {is : List Nat} {a b : Value} {r s : Bool}
theorem eqi_cons (ha : (part e xs (i * c)).run P w = .ok a w) (hb : (part e ys (i * c)).run P w = .ok b w) (he : (Op.equalIn d e a b).run P w = .ok r w) (hr : (Op.eqItems d e c xs ys is).run P w = .ok s w) : (Op.eqItems d e c xs ys (i :: is)).run P w = .ok (r && s) w := by
  simp only [Op.eqItems, Sem.run_bind, ha, hb, he, Result.andThen_ok]
  cases r
  · simp
  · simpa using hr
theorem eqi_nil : (Op.eqItems d e c xs ys []).run P w = .ok true w := by simp [Op.eqItems]
end
theorem eq15 (d : Nat) (w : World) (x0 x1 x2 x3 x4 x5 x6 x7 x8 x9 x10 x11 x12 x13 x14 y0 y1 y2 y3 y4 y5 y6 y7 y8 y9 y10 y11 y12 y13 y14 : Int) : (Op.equalIn (d + 3) 82 (.agg #[.int .u16 x0, .int .u16 x1, .int .u16 x2, .int .u16 x3, .int .u16 x4, .int .u16 x5, .int .u16 x6, .int .u16 x7, .int .u16 x8, .int .u16 x9, .int .u16 x10, .int .u16 x11, .int .u16 x12, .int .u16 x13, .int .u16 x14]) (.agg #[.int .u16 y0, .int .u16 y1, .int .u16 y2, .int .u16 y3, .int .u16 y4, .int .u16 y5, .int .u16 y6, .int .u16 y7, .int .u16 y8, .int .u16 y9, .int .u16 y10, .int .u16 y11, .int .u16 y12, .int .u16 y13, .int .u16 y14])).run Try.prog w = .ok ([x0, x1, x2, x3, x4, x5, x6, x7, x8, x9, x10, x11, x12, x13, x14] == [y0, y1, y2, y3, y4, y5, y6, y7, y8, y9, y10, y11, y12, y13, y14]) w := by
  obtain ⟨i0, hi, _⟩ := info_parts info46
  rw [run_equalIn_array w (d + 2) _ _ Try.underlying82 hi, show List.range 15 = [0, 1, 2, 3, 4, 5, 6, 7, 8, 9, 10, 11, 12, 13, 14] from rfl, show Try.prog.cellsOf 24 = 1 by kernel_rfl]
  have hc : ([x0, x1, x2, x3, x4, x5, x6, x7, x8, x9, x10, x11, x12, x13, x14] == [y0, y1, y2, y3, y4, y5, y6, y7, y8, y9, y10, y11, y12, y13, y14]) = (x0 == y0 && (x1 == y1 && (x2 == y2 && (x3 == y3 && (x4 == y4 && (x5 == y5 && (x6 == y6 && (x7 == y7 && (x8 == y8 && (x9 == y9 && (x10 == y10 && (x11 == y11 && (x12 == y12 && (x13 == y13 && (x14 == y14 && (true)))))))))))))))) := by simp only [List.cons_beq_cons]; rfl
  rw [hc]
  refine eqi_cons (by go_simp; rfl) (by go_simp; rfl) (by go_simp) ?_
  refine eqi_cons (by go_simp; rfl) (by go_simp; rfl) (by go_simp) ?_
  refine eqi_cons (by go_simp; rfl) (by go_simp; rfl) (by go_simp) ?_
  refine eqi_cons (by go_simp; rfl) (by go_simp; rfl) (by go_simp) ?_
  refine eqi_cons (by go_simp; rfl) (by go_simp; rfl) (by go_simp) ?_
  refine eqi_cons (by go_simp; rfl) (by go_simp; rfl) (by go_simp) ?_
  refine eqi_cons (by go_simp; rfl) (by go_simp; rfl) (by go_simp) ?_
  refine eqi_cons (by go_simp; rfl) (by go_simp; rfl) (by go_simp) ?_
  refine eqi_cons (by go_simp; rfl) (by go_simp; rfl) (by go_simp) ?_
  refine eqi_cons (by go_simp; rfl) (by go_simp; rfl) (by go_simp) ?_
  refine eqi_cons (by go_simp; rfl) (by go_simp; rfl) (by go_simp) ?_
  refine eqi_cons (by go_simp; rfl) (by go_simp; rfl) (by go_simp) ?_
  refine eqi_cons (by go_simp; rfl) (by go_simp; rfl) (by go_simp) ?_
  refine eqi_cons (by go_simp; rfl) (by go_simp; rfl) (by go_simp) ?_
  refine eqi_cons (by go_simp; rfl) (by go_simp; rfl) (by go_simp) ?_
  exact eqi_nil
theorem slices_Equal_uint16_uint16_loop (l m : List Int) (hl : (l.length : Int) ≤ 9223372036854775807) (he : l.length = m.length) (d : Nat) : ∀ k i, i ≤ l.length → l.length - i = d → d < k → slices_Equal_uint16_uint16.l0 k l m l.length i = some (l.drop i == m.drop i) := by
  induction d with
  | zero =>
    intro k i h1 h2 hk
    obtain ⟨k, rfl⟩ : ∃ m, k = m + 1 := ⟨k - 1, by omega⟩
    have c : ¬ (i : Int) < (l.length : Int) := by omega
    simp only [slices_Equal_uint16_uint16.l0]
    rw [if_neg c, List.drop_eq_nil_of_le (by omega), List.drop_eq_nil_of_le (by omega)]; rfl
  | succ d ih =>
    intro k i h1 h2 hk
    obtain ⟨k, rfl⟩ : ∃ m, k = m + 1 := ⟨k - 1, by omega⟩
    have c1 : (i : Int) < (l.length : Int) := by omega
    have c2 : (0 : Int) ≤ (i : Int) := by omega
    have c3 : (i : Int) < (m.length : Int) := by omega
    have d3 : (i : Int) + 1 = ((i + 1 : Nat) : Int) := by omega
    have e3 : ((i + 1 : Nat) : Int) < 9223372036854775808 := by omega
    have e4 : -9223372036854775808 ≤ ((i + 1 : Nat) : Int) := by omega
    have hn := ih k (i + 1) (by omega) (by omega) (by omega)
    rw [drop_cons (show i < l.length by omega) 0, drop_cons (show i < m.length by omega) 0]
    simp only [slices_Equal_uint16_uint16.l0]
    rw [if_pos c1, if_pos c2, if_pos c1, if_pos c3, d3, wrap64_id e4 e3, hn]
    have hr : ∀ x : List Int, rd x (i : Int) = x.getD i 0 := fun x => by simp [rd]
    rw [hr, hr, List.cons_beq_cons]
    generalize l.getD i 0 = x
    generalize m.getD i 0 = y
    by_cases h : x = y
    · subst h; simp
    · simp [h]
theorem slices_Equal_uint16_uint16_ev (l m : List Int) (hl : l.length ≤ 9223372036854775807) : Ev (fun k => slices_Equal_uint16_uint16.f k l m) (l == m) := by
  refine Ev.of (slices_Equal_uint16_uint16.mono l m) (k := l.length + 1) ?_
  unfold slices_Equal_uint16_uint16.f
  by_cases he : l.length = m.length
  · have h := slices_Equal_uint16_uint16_loop l m (by omega) he l.length (l.length + 1) 0 (by omega) (by omega) (by omega)
    rw [Int.natCast_zero] at h
    rw [if_pos (by rw [he]), h]; rfl
  · rw [if_neg (fun h => he (by omega))]
    congr 1
    symm
    rw [beq_eq_false_iff_ne]
    exact fun h => he (by rw [h])
theorem slices_Equal_bool_bool_loop (l m : List Bool) (hl : (l.length : Int) ≤ 9223372036854775807) (he : l.length = m.length) (d : Nat) : ∀ k i, i ≤ l.length → l.length - i = d → d < k → slices_Equal_bool_bool.l0 k l m l.length i = some (l.drop i == m.drop i) := by
  induction d with
  | zero =>
    intro k i h1 h2 hk
    obtain ⟨k, rfl⟩ : ∃ m, k = m + 1 := ⟨k - 1, by omega⟩
    have c : ¬ (i : Int) < (l.length : Int) := by omega
    simp only [slices_Equal_bool_bool.l0]
    rw [if_neg c, List.drop_eq_nil_of_le (by omega), List.drop_eq_nil_of_le (by omega)]; rfl
  | succ d ih =>
    intro k i h1 h2 hk
    obtain ⟨k, rfl⟩ : ∃ m, k = m + 1 := ⟨k - 1, by omega⟩
    have c1 : (i : Int) < (l.length : Int) := by omega
    have c2 : (0 : Int) ≤ (i : Int) := by omega
    have c3 : (i : Int) < (m.length : Int) := by omega
    have d3 : (i : Int) + 1 = ((i + 1 : Nat) : Int) := by omega
    have e3 : ((i + 1 : Nat) : Int) < 9223372036854775808 := by omega
    have e4 : -9223372036854775808 ≤ ((i + 1 : Nat) : Int) := by omega
    have hn := ih k (i + 1) (by omega) (by omega) (by omega)
    rw [drop_cons (show i < l.length by omega) false, drop_cons (show i < m.length by omega) false]
    simp only [slices_Equal_bool_bool.l0]
    rw [if_pos c1, if_pos c2, if_pos c1, if_pos c3, d3, wrap64_id e4 e3, hn]
    have hr : ∀ x : List Bool, rdOf false x (i : Int) = x.getD i false := fun x => by simp [rdOf]
    rw [hr, hr, List.cons_beq_cons]
    generalize l.getD i false = x
    generalize m.getD i false = y
    cases x <;> cases y <;> simp
theorem slices_Equal_bool_bool_ev (l m : List Bool) (hl : l.length ≤ 9223372036854775807) : Ev (fun k => slices_Equal_bool_bool.f k l m) (l == m) := by
  refine Ev.of (slices_Equal_bool_bool.mono l m) (k := l.length + 1) ?_
  unfold slices_Equal_bool_bool.f
  by_cases he : l.length = m.length
  · have h := slices_Equal_bool_bool_loop l m (by omega) he l.length (l.length + 1) 0 (by omega) (by omega) (by omega)
    rw [Int.natCast_zero] at h
    rw [if_pos (by rw [he]), h]; rfl
  · rw [if_neg (fun h => he (by omega))]
    congr 1
    symm
    rw [beq_eq_false_iff_ne]
    exact fun h => he (by rw [h])
theorem rec_ev (a b : S43) (hl : a.f3.length ≤ 9223372036854775807) : Ev (fun k => code_rec.f k a.f0 a.f1 a.f2 a.f3 b.f0 b.f1 b.f2 b.f3) (recB a b) := by
  unfold code_rec.f recB
  by_cases h0 : a.f0 = b.f0
  · refine pos h0 ?_
    by_cases h1 : a.f1 = b.f1
    · refine pos h1 ?_
      by_cases h2 : a.f2 = b.f2
      · refine pos h2 (Ev.bind (slices_Equal_uint16_uint16_ev a.f3 b.f3 hl) (ret ?_))
        simp [h0, h1, h2]
      · exact neg h2 (ret (by simp [h2]))
    · exact neg h1 (ret (by simp [h1]))
  · exact neg h0 (ret (by simp [h0]))
theorem u8_bytes {l : List Int} (h : l.all u8B = true) : isBytes l := by
  intro x hx
  have := List.all_eq_true.1 h x hx
  simp only [u8B, Bool.and_eq_true, decide_eq_true_eq] at this
  exact this
theorem obj_ev (a b : S69) (ha : a.f1.all u8B = true) (hb : b.f1.all u8B = true) : code_object.f a.f0 a.f1 b.f0 b.f1 = some (objB a b) := by
  unfold code_object.f objB
  by_cases h0 : a.f0 = b.f0
  · rw [if_pos h0, str_beq (u8_bytes ha) (u8_bytes hb)]; simp [h0]
  · rw [if_neg h0]; simp [h0]
theorem listB_len {α : Type} {f : α → α → Bool} : ∀ l m : List α, listB f l m = true → l.length = m.length
  | [], [], _ => rfl
  | x :: xs, y :: ys, h => by
    simp only [listB, Bool.and_eq_true] at h
    simp only [List.length_cons]
    rw [listB_len xs ys h.2]
  | [], y :: ys, h => by cases h
  | x :: xs, [], h => by cases h
theorem recs_any (A B : Option Addr) (c d : Nat) (l m : List S43) (w : World) (hA : Kd.C k43 w A l.length l) (hB : Kd.C k43 w B m.length m)  :
    Calls Try.prog 53 #[.slice A l.length c, .slice B m.length d, .func (.func 54) #[] #[]] w fun e w' => e = .returned (.bool (listB recB l m)) ∧ Below w.heap.size w w' := by
  have hll : l.length ≤ 9223372036854775807 := hA.2.1
  have HA := Aside0.mk hA
  have HB := Aside0.mk hB
  clear hA hB
  have hu := Try.underlying43
  by_cases hlen : l.length = m.length
  · have hLM := Aside0.mk hlen
    have t1 : (l.length == m.length) = true := beq_iff_eq.2 hlen
    have t2 : (l.length != m.length) = false := by rw [hlen]; simp
    have t3 : ((l.length : Int) == (m.length : Int)) = true := beq_iff_eq.2 (by omega)
    have t4 : ((l.length : Int) != (m.length : Int)) = false := by rw [hlen]; simp
    clear hlen
    go_enter Try.func53, Try.ntmps53
    go_wp2
    go_loopw [17] (fun i wr => ∃ k : Nat, k ≤ l.length ∧ i = .int .i64 k ∧ Aside0 (listB recB l m = listB recB (l.drop k) (m.drop k)) ∧ Aside0 (Below w.heap.size w wr)) (fun i _ => l.length - (intOf i).toNat)
    case atStart => exact ⟨0, Nat.zero_le _, rfl, ⟨rfl⟩, ⟨Below.refl _ _⟩⟩
    case round =>
      obtain ⟨k, hk, rfl, HL, HW⟩ := hrel
      by_cases hlt : k < l.length
      · have hlt2 : k < m.length := by rw [← hLM.out]; exact hlt
        obtain ⟨adA, A3, cA3, rfl, x0, x1, x2, x3, gA, qA⟩ := at_T43 HA.out (k : Int) (by omega) (by omega)
        obtain ⟨adB, B3, cB3, rfl, y0, y1, y2, y3, gB, qB⟩ := at_T43 HB.out (k : Int) (by omega) (by omega)
        have px0 := (HW.out.cell (World.block_lt_of_cell? w _ x0)).trans x0
        rw [Int.toNat_natCast] at px0
        clear x0
        have px1 := (HW.out.cell (World.block_lt_of_cell? w _ x1)).trans x1
        rw [Int.toNat_natCast] at px1
        clear x1
        have px2 := (HW.out.cell (World.block_lt_of_cell? w _ x2)).trans x2
        rw [Int.toNat_natCast] at px2
        clear x2
        have px3 := (HW.out.cell (World.block_lt_of_cell? w _ x3)).trans x3
        rw [Int.toNat_natCast] at px3
        clear x3
        have py0 := (HW.out.cell (World.block_lt_of_cell? w _ y0)).trans y0
        rw [Int.toNat_natCast] at py0
        clear y0
        have ay0 := fun o : Obj => ((below_alloc (Below.refl _ wr) o).cell (World.block_lt_of_cell? wr _ py0)).trans py0
        clear py0
        have py1 := (HW.out.cell (World.block_lt_of_cell? w _ y1)).trans y1
        rw [Int.toNat_natCast] at py1
        clear y1
        have ay1 := fun o : Obj => ((below_alloc (Below.refl _ wr) o).cell (World.block_lt_of_cell? wr _ py1)).trans py1
        clear py1
        have py2 := (HW.out.cell (World.block_lt_of_cell? w _ y2)).trans y2
        rw [Int.toNat_natCast] at py2
        clear y2
        have ay2 := fun o : Obj => ((below_alloc (Below.refl _ wr) o).cell (World.block_lt_of_cell? wr _ py2)).trans py2
        clear py2
        have py3 := (HW.out.cell (World.block_lt_of_cell? w _ y3)).trans y3
        rw [Int.toNat_natCast] at py3
        clear y3
        have ay3 := fun o : Obj => ((below_alloc (Below.refl _ wr) o).cell (World.block_lt_of_cell? wr _ py3)).trans py3
        clear py3
        have hdrop : listB recB (l.drop k) (m.drop k) = (recB (rd_T43 l k) (rd_T43 m k) && listB recB (l.drop (k + 1)) (m.drop (k + 1))) := by
          rw [drop_cons hlt z43, drop_cons hlt2 z43]; rfl
        have HD := Aside0.mk hdrop
        clear hdrop
        have HX := Aside0.mk qA
        have HY := Aside0.mk qB
        clear qA qB
        obtain ⟨kk, hpure⟩ := (rec_ev (rd_T43 l k) (rd_T43 m k) (HX.out.2.1)).rounds
        cases hcmp : recB (rd_T43 l k) (rd_T43 m k) with
        | true =>
          have HC := Aside0.mk hcmp
          rw [hcmp] at hpure
          have HP := Aside0.mk hpure
          clear hcmp hpure
          go_wp2_with (go_at_call 54; (with_reducible refine (code_rec.calls kk _ _ _ _ _ (rd_T43 l k).f3 _ _ _ _ _ (rd_T43 m k).f3 true _ ?side1 ?side2 ?side3 ?side4 HP.out).mono ?_); (case side1 => repeat (first | exact (Kd.C_below HX.out HW.out) | (with_reducible refine Kd.C_alloc ?_ _) | (with_reducible refine Kd.C_drewN ?_ _) | (with_reducible refine Kd.C_drew ?_))); (case side2 => exact gA); (case side3 => repeat (first | exact (Kd.C_below HY.out HW.out) | (with_reducible refine Kd.C_alloc ?_ _) | (with_reducible refine Kd.C_drewN ?_ _) | (with_reducible refine Kd.C_drew ?_))); (case side4 => exact gB); rintro e w2 ⟨rfl, hb2⟩; have HB2 := Aside0.mk (below_step (by repeat (first | (with_reducible first | exact HW.out | apply below_alloc | apply pw_below_drewN | apply below_drew1) | exact HW.out)) hb2); clear hb2)
          go_roundw
          case rel => exact ⟨k + 1, by omega, by go_num, ⟨by rw [HL.out, HD.out, HC.out]; rfl⟩, ⟨HB2.out⟩⟩
          case measure => simp [intOf]; omega
        | false =>
          have HC := Aside0.mk hcmp
          rw [hcmp] at hpure
          have HP := Aside0.mk hpure
          clear hcmp hpure
          go_wp2_with (go_at_call 54; (with_reducible refine (code_rec.calls kk _ _ _ _ _ (rd_T43 l k).f3 _ _ _ _ _ (rd_T43 m k).f3 false _ ?side1 ?side2 ?side3 ?side4 HP.out).mono ?_); (case side1 => repeat (first | exact (Kd.C_below HX.out HW.out) | (with_reducible refine Kd.C_alloc ?_ _) | (with_reducible refine Kd.C_drewN ?_ _) | (with_reducible refine Kd.C_drew ?_))); (case side2 => exact gA); (case side3 => repeat (first | exact (Kd.C_below HY.out HW.out) | (with_reducible refine Kd.C_alloc ?_ _) | (with_reducible refine Kd.C_drewN ?_ _) | (with_reducible refine Kd.C_drew ?_))); (case side4 => exact gB); rintro e w2 ⟨rfl, hb2⟩; have HB2 := Aside0.mk (below_step (by repeat (first | (with_reducible first | exact HW.out | apply below_alloc | apply pw_below_drewN | apply below_drew1) | exact HW.out)) hb2); clear hb2)
          go_ret
          exact ⟨by rw [HL.out, HD.out, HC.out]; rfl, HB2.out⟩
      · go_wp2
        go_ret
        have e1 : l.drop k = [] := List.drop_eq_nil_of_le (by omega)
        have e2 : m.drop k = [] := List.drop_eq_nil_of_le (by have := hLM.out; omega)
        exact ⟨by rw [HL.out, e1, e2]; rfl, HW.out⟩
  · have t1 : (l.length == m.length) = false := beq_eq_false_iff_ne.2 hlen
    have t2 : (l.length != m.length) = true := bne_iff_ne.2 hlen
    have t3 : ((l.length : Int) == (m.length : Int)) = false := beq_eq_false_iff_ne.2 (by omega)
    have t4 : ((l.length : Int) != (m.length : Int)) = true := bne_iff_ne.2 (by omega)
    have hne : listB recB l m = false := Bool.eq_false_iff.2 fun h => hlen (listB_len _ _ h)
    have HN := Aside0.mk hne
    clear hne hlen
    go_enter Try.func53, Try.ntmps53
    go_wp2
    go_ret
    exact ⟨by rw [HN.out]; rfl, Below.refl _ _⟩
theorem objs_any (A B : Option Addr) (c d : Nat) (l m : List S69) (w : World) (hA : Kd.C k69 w A l.length l) (hB : Kd.C k69 w B m.length m) (hin : ∀ x ∈ l, x.f1.all u8B = true) (hin2 : ∀ x ∈ m, x.f1.all u8B = true) :
    Calls Try.prog 55 #[.slice A l.length c, .slice B m.length d, .func (.func 56) #[] #[]] w fun e w' => e = .returned (.bool (listB objB l m)) ∧ Below w.heap.size w w' := by
  have hll : l.length ≤ 9223372036854775807 := hA.2.1
  have HA := Aside0.mk hA
  have HB := Aside0.mk hB
  clear hA hB
  have hu := Try.underlying69
  by_cases hlen : l.length = m.length
  · have hLM := Aside0.mk hlen
    have t1 : (l.length == m.length) = true := beq_iff_eq.2 hlen
    have t2 : (l.length != m.length) = false := by rw [hlen]; simp
    have t3 : ((l.length : Int) == (m.length : Int)) = true := beq_iff_eq.2 (by omega)
    have t4 : ((l.length : Int) != (m.length : Int)) = false := by rw [hlen]; simp
    clear hlen
    go_enter Try.func55, Try.ntmps55
    go_wp2
    go_loopw [17] (fun i wr => ∃ k : Nat, k ≤ l.length ∧ i = .int .i64 k ∧ Aside0 (listB objB l m = listB objB (l.drop k) (m.drop k)) ∧ Aside0 (Below w.heap.size w wr)) (fun i _ => l.length - (intOf i).toNat)
    case atStart => exact ⟨0, Nat.zero_le _, rfl, ⟨rfl⟩, ⟨Below.refl _ _⟩⟩
    case round =>
      obtain ⟨k, hk, rfl, HL, HW⟩ := hrel
      by_cases hlt : k < l.length
      · have hlt2 : k < m.length := by rw [← hLM.out]; exact hlt
        obtain ⟨adA, A1, cA1, rfl, x0, x1, gA, qA⟩ := at_T69 HA.out (k : Int) (by omega) (by omega)
        obtain ⟨adB, B1, cB1, rfl, y0, y1, gB, qB⟩ := at_T69 HB.out (k : Int) (by omega) (by omega)
        have px0 := (HW.out.cell (World.block_lt_of_cell? w _ x0)).trans x0
        rw [Int.toNat_natCast] at px0
        clear x0
        have px1 := (HW.out.cell (World.block_lt_of_cell? w _ x1)).trans x1
        rw [Int.toNat_natCast] at px1
        clear x1
        have py0 := (HW.out.cell (World.block_lt_of_cell? w _ y0)).trans y0
        rw [Int.toNat_natCast] at py0
        clear y0
        have ay0 := fun o : Obj => ((below_alloc (Below.refl _ wr) o).cell (World.block_lt_of_cell? wr _ py0)).trans py0
        clear py0
        have py1 := (HW.out.cell (World.block_lt_of_cell? w _ y1)).trans y1
        rw [Int.toNat_natCast] at py1
        clear y1
        have ay1 := fun o : Obj => ((below_alloc (Below.refl _ wr) o).cell (World.block_lt_of_cell? wr _ py1)).trans py1
        clear py1
        have hdrop : listB objB (l.drop k) (m.drop k) = (objB (rd_T69 l k) (rd_T69 m k) && listB objB (l.drop (k + 1)) (m.drop (k + 1))) := by
          rw [drop_cons hlt z69, drop_cons hlt2 z69]; rfl
        have HD := Aside0.mk hdrop
        clear hdrop
        have HX := Aside0.mk qA
        have HY := Aside0.mk qB
        clear qA qB
        have hpure := obj_ev (rd_T69 l k) (rd_T69 m k) (by unfold rd_T69; rw [Int.toNat_natCast, List.getD_eq_getElem?_getD, List.getElem?_eq_getElem hlt]; exact hin _ (List.getElem_mem hlt)) (by unfold rd_T69; rw [Int.toNat_natCast, List.getD_eq_getElem?_getD, List.getElem?_eq_getElem hlt2]; exact hin2 _ (List.getElem_mem hlt2))
        cases hcmp : objB (rd_T69 l k) (rd_T69 m k) with
        | true =>
          have HC := Aside0.mk hcmp
          rw [hcmp] at hpure
          have HP := Aside0.mk hpure
          clear hcmp hpure
          go_wp2_with (go_at_call 56; (with_reducible refine (code_object.calls _ _ _ (rd_T69 l k).f1 _ _ _ (rd_T69 m k).f1 true _ ?side1 ?side2 ?side3 ?side4 HP.out).mono ?_); (case side1 => repeat (first | exact (Kd.C_below HX.out HW.out) | (with_reducible refine Kd.C_alloc ?_ _) | (with_reducible refine Kd.C_drewN ?_ _) | (with_reducible refine Kd.C_drew ?_))); (case side2 => exact gA); (case side3 => repeat (first | exact (Kd.C_below HY.out HW.out) | (with_reducible refine Kd.C_alloc ?_ _) | (with_reducible refine Kd.C_drewN ?_ _) | (with_reducible refine Kd.C_drew ?_))); (case side4 => exact gB); rintro e w2 ⟨rfl, hb2⟩; have HB2 := Aside0.mk (below_step (by repeat (first | (with_reducible first | exact HW.out | apply below_alloc | apply pw_below_drewN | apply below_drew1) | exact HW.out)) hb2); clear hb2)
          go_roundw
          case rel => exact ⟨k + 1, by omega, by go_num, ⟨by rw [HL.out, HD.out, HC.out]; rfl⟩, ⟨HB2.out⟩⟩
          case measure => simp [intOf]; omega
        | false =>
          have HC := Aside0.mk hcmp
          rw [hcmp] at hpure
          have HP := Aside0.mk hpure
          clear hcmp hpure
          go_wp2_with (go_at_call 56; (with_reducible refine (code_object.calls _ _ _ (rd_T69 l k).f1 _ _ _ (rd_T69 m k).f1 false _ ?side1 ?side2 ?side3 ?side4 HP.out).mono ?_); (case side1 => repeat (first | exact (Kd.C_below HX.out HW.out) | (with_reducible refine Kd.C_alloc ?_ _) | (with_reducible refine Kd.C_drewN ?_ _) | (with_reducible refine Kd.C_drew ?_))); (case side2 => exact gA); (case side3 => repeat (first | exact (Kd.C_below HY.out HW.out) | (with_reducible refine Kd.C_alloc ?_ _) | (with_reducible refine Kd.C_drewN ?_ _) | (with_reducible refine Kd.C_drew ?_))); (case side4 => exact gB); rintro e w2 ⟨rfl, hb2⟩; have HB2 := Aside0.mk (below_step (by repeat (first | (with_reducible first | exact HW.out | apply below_alloc | apply pw_below_drewN | apply below_drew1) | exact HW.out)) hb2); clear hb2)
          go_ret
          exact ⟨by rw [HL.out, HD.out, HC.out]; rfl, HB2.out⟩
      · go_wp2
        go_ret
        have e1 : l.drop k = [] := List.drop_eq_nil_of_le (by omega)
        have e2 : m.drop k = [] := List.drop_eq_nil_of_le (by have := hLM.out; omega)
        exact ⟨by rw [HL.out, e1, e2]; rfl, HW.out⟩
  · have t1 : (l.length == m.length) = false := beq_eq_false_iff_ne.2 hlen
    have t2 : (l.length != m.length) = true := bne_iff_ne.2 hlen
    have t3 : ((l.length : Int) == (m.length : Int)) = false := beq_eq_false_iff_ne.2 (by omega)
    have t4 : ((l.length : Int) != (m.length : Int)) = true := bne_iff_ne.2 (by omega)
    have hne : listB objB l m = false := Bool.eq_false_iff.2 fun h => hlen (listB_len _ _ h)
    have HN := Aside0.mk hne
    clear hne hlen
    go_enter Try.func55, Try.ntmps55
    go_wp2
    go_ret
    exact ⟨by rw [HN.out]; rfl, Below.refl _ _⟩
def eqL (a b : List Int) : Bool := a == b
theorem eqL15 (d : Nat) (w : World) (x0 x1 x2 x3 x4 x5 x6 x7 x8 x9 x10 x11 x12 x13 x14 y0 y1 y2 y3 y4 y5 y6 y7 y8 y9 y10 y11 y12 y13 y14 : Int) : (Op.equalIn (d + 3) 82 (.agg #[.int .u16 x0, .int .u16 x1, .int .u16 x2, .int .u16 x3, .int .u16 x4, .int .u16 x5, .int .u16 x6, .int .u16 x7, .int .u16 x8, .int .u16 x9, .int .u16 x10, .int .u16 x11, .int .u16 x12, .int .u16 x13, .int .u16 x14]) (.agg #[.int .u16 y0, .int .u16 y1, .int .u16 y2, .int .u16 y3, .int .u16 y4, .int .u16 y5, .int .u16 y6, .int .u16 y7, .int .u16 y8, .int .u16 y9, .int .u16 y10, .int .u16 y11, .int .u16 y12, .int .u16 y13, .int .u16 y14])).run Try.prog w = .ok (eqL [x0, x1, x2, x3, x4, x5, x6, x7, x8, x9, x10, x11, x12, x13, x14] [y0, y1, y2, y3, y4, y5, y6, y7, y8, y9, y10, y11, y12, y13, y14]) w := eq15 d w x0 x1 x2 x3 x4 x5 x6 x7 x8 x9 x10 x11 x12 x13 x14 y0 y1 y2 y3 y4 y5 y6 y7 y8 y9 y10 y11 y12 y13 y14
theorem sh_eq (a b : Int) (ha : 0 ≤ a ∧ a < 256) (hb : 0 ≤ b ∧ b < 256) : shB a b = a * 256 + b := by
  unfold shB
  exact bits_join .u16 16 (by decide) (fun n h0 h1 => by simp [IntKind.wrap, IntKind.bits, IntKind.signed]; omega) 8 (a * 256) b (by omega) (by omega) (by omega) hb.1 (by omega) (by omega)
theorem plain_eq (x y : Msg) (vx0 : 0 ≤ x.code ∧ x.code < 256) (vx1 : 0 ≤ x.fail ∧ x.fail < 256) (vx16 : 0 ≤ x.mei ∧ x.mei < 256) (vx17 : 0 ≤ x.kind ∧ x.kind < 256) (vx18 : 0 ≤ x.level ∧ x.level < 256) (vx19 : 0 ≤ x.more ∧ x.more < 256) (vx20 : 0 ≤ x.next ∧ x.next < 256) (vy0 : 0 ≤ y.code ∧ y.code < 256) (vy1 : 0 ≤ y.fail ∧ y.fail < 256) (vy16 : 0 ≤ y.mei ∧ y.mei < 256) (vy17 : 0 ≤ y.kind ∧ y.kind < 256) (vy18 : 0 ≤ y.level ∧ y.level < 256) (vy19 : 0 ≤ y.more ∧ y.more < 256) (vy20 : 0 ≤ y.next ∧ y.next < 256) : eqL [x.code, x.fail, x.addr, x.count, x.value, x.and_, x.or_, x.addr2, x.sub, x.status, x.events, x.messages, shB x.mei x.kind, shB x.level x.more, x.next] [y.code, y.fail, y.addr, y.count, y.value, y.and_, y.or_, y.addr2, y.sub, y.status, y.events, y.messages, shB y.mei y.kind, shB y.level y.more, y.next] = plainB x y := by
  unfold eqL plainB
  rw [sh_eq x.mei x.kind vx16 vx17, sh_eq x.level x.more vx18 vx19, sh_eq y.mei y.kind vy16 vy17, sh_eq y.level y.more vy18 vy19, Bool.eq_iff_iff]
  simp only [beq_iff_eq, List.cons.injEq, Bool.and_eq_true, and_true]
  constructor
  · intro h
    obtain ⟨a0, a1, a2, a3, a4, a5, a6, a7, a8, a9, a10, a11, a12, a13, a14⟩ := h
    refine ⟨⟨⟨⟨⟨⟨⟨⟨⟨⟨⟨⟨⟨⟨⟨⟨a0, a1⟩, a2⟩, a3⟩, a4⟩, a5⟩, a6⟩, a7⟩, a8⟩, a9⟩, a10⟩, a11⟩, ?_⟩, ?_⟩, ?_⟩, ?_⟩, a14⟩ <;> omega
  · rintro ⟨⟨⟨⟨⟨⟨⟨⟨⟨⟨⟨⟨⟨⟨⟨⟨a0, a1⟩, a2⟩, a3⟩, a4⟩, a5⟩, a6⟩, a7⟩, a8⟩, a9⟩, a10⟩, a11⟩, a12⟩, a13⟩, a14⟩, a15⟩, a16⟩
    refine ⟨a0, a1, a2, a3, a4, a5, a6, a7, a8, a9, a10, a11, ?_, ?_, a16⟩ <;> omega
theorem exec_load_row {P : Program} {ev : Operand → Value} {o : Oper} {w : World} (ty : TypeId) (x : Operand) (ho : o.op = .load ty x) (g : Nat) (hx : ev x = .pointer (some ⟨g, 0, none⟩)) (t : TypeId) (cs : Array Value) (fr : Nat × Nat) (d : TypeDesc)
    (hg : w.heap[g]? = some (.cells cs t fr)) (hu : P.underlying ty = some d) (hd : (match d with | .struct _ | .array _ _ => true | _ => false) = true) (hi : (P.info? ty).map (·.size) = some cs.size) : (execOp ev o).run P w = .ok (.value (.agg cs)) w := by
  unfold execOp
  simp only [ho, hx, Instr.loadAt, Instr.sureAddr, Sem.run_bind, Sem.run_pure, Result.andThen_ok, run_loadVar_row w g t ty cs fr d hg hu hd hi]
theorem heap_x (w : World) (cx cy : Array Value) (t : TypeId) : ((w.alloc (.cells cx t)).alloc (.cells cy t)).drew.heap[w.heap.size]? = some (.cells cx t (0, 0)) := by
  show (w.alloc (.cells cx t)|>.alloc (.cells cy t)).heap[w.heap.size]? = _
  have h := heap_alloc_new w (.cells cx t)
  rw [← h]
  exact (below_alloc (Below.refl _ (w.alloc (.cells cx t))) (.cells cy t)).block _ (by simp)
theorem heap_y (w : World) (cx cy : Array Value) (t : TypeId) : ((w.alloc (.cells cx t)).alloc (.cells cy t)).drew.heap[w.heap.size + 1]? = some (.cells cy t (0, 0)) := by
  show (w.alloc (.cells cx t)|>.alloc (.cells cy t)).heap[w.heap.size + 1]? = _
  have h := heap_alloc_new (w.alloc (.cells cx t)) (.cells cy t)
  rw [show (w.alloc (.cells cx t)).heap.size = w.heap.size + 1 by simp] at h
  exact h
end Go.Proofs.Ytdjeekpgcjcffaa.Same
end
section
namespace Go.Proofs.Ytdjeekpgcjcffaa.Same
open Go.RowKit Go.Proofs.Ytdjeekpgcjcffaa.P Go.Proofs.Ytdjeekpgcjcffaa.E Go.Proofs.YtdjeekpgcjcffaaW.PrintWords Go.Proofs.YtdjeekpgcjcffaaW.PrintLast Go.Proofs.YtdjeekpgcjcffaaW.PrintMore
def goodRec (r : S43) : Prop := (0 ≤ r.f0 ∧ r.f0 < 65536) ∧ (0 ≤ r.f1 ∧ r.f1 < 65536) ∧ (0 ≤ r.f2 ∧ r.f2 < 65536) ∧ ∀ x ∈ r.f3, 0 ≤ x ∧ x < 65536
def goodM (m : Msg) : Prop := okM m = true ∧ (∀ x ∈ m.words, 0 ≤ x ∧ x < 65536) ∧ (∀ r ∈ m.recs, goodRec r) ∧ ∀ o ∈ m.objects, 0 ≤ o.f0 ∧ o.f0 < 256
def IsMsg (w : World) (cx : Array Value) (m : Msg) : Prop :=
  ∃ (A12 : Option Addr) (c12 : Nat) (A13 : Option Addr) (c13 : Nat) (A14 : Option Addr) (c14 : Nat) (A15 : Option Addr) (c15 : Nat) (A21 : Option Addr) (c21 : Nat), cx = #[.int .u8 m.code, .int .u8 m.fail, .int .u16 m.addr, .int .u16 m.count, .int .u16 m.value, .int .u16 m.and_, .int .u16 m.or_, .int .u16 m.addr2, .int .u16 m.sub, .int .u16 m.status, .int .u16 m.events, .int .u16 m.messages, .slice A12 m.words.length c12, .slice A13 m.bits.length c13, .slice A14 m.data.length c14, .slice A15 m.recs.length c15, .int .u8 m.mei, .int .u8 m.kind, .int .u8 m.level, .int .u8 m.more, .int .u8 m.next, .slice A21 m.objects.length c21] ∧ goodM m ∧ (Kd.C (Kd.int .u16) w A12 m.words.length m.words ∧ m.words.length ≤ c12) ∧ (Kd.C Kd.bool w A13 m.bits.length m.bits ∧ m.bits.length ≤ c13) ∧ (Kd.C (Kd.int .u8) w A14 m.data.length m.data ∧ m.data.length ≤ c14) ∧ (Kd.C k43 w A15 m.recs.length m.recs ∧ m.recs.length ≤ c15) ∧ (Kd.C k69 w A21 m.objects.length m.objects ∧ m.objects.length ≤ c21)
theorem IsMsg.on {w w' : World} {cx : Array Value} {m : Msg} (h : IsMsg w cx m) (hb : Below w.heap.size w w') : IsMsg w' cx m := by
  obtain ⟨A12, c12, A13, c13, A14, c14, A15, c15, A21, c21, rfl, ok, ⟨hr12, hc12⟩, ⟨hr13, hc13⟩, ⟨hr14, hc14⟩, ⟨hr15, hc15⟩, ⟨hr21, hc21⟩⟩ := h
  exact ⟨A12, c12, A13, c13, A14, c14, A15, c15, A21, c21, rfl, ok, ⟨Kd.C_below hr12 hb, hc12⟩, ⟨Kd.C_below hr13 hb, hc13⟩, ⟨Kd.C_below hr14 hb, hc14⟩, ⟨Kd.C_below hr15 hb, hc15⟩, ⟨Kd.C_below hr21 hb, hc21⟩⟩
theorem IsMsg.size {w : World} {cx : Array Value} {m : Msg} (h : IsMsg w cx m) : cx.size = 22 := by
  obtain ⟨A12, c12, A13, c13, A14, c14, A15, c15, A21, c21, rfl, ok, ⟨hr12, hc12⟩, ⟨hr13, hc13⟩, ⟨hr14, hc14⟩, ⟨hr15, hc15⟩, ⟨hr21, hc21⟩⟩ := h
  rfl
theorem IsMsg.one {w : World} {cx : Array Value} {m : Msg} (h : IsMsg w cx m) : cx.all (·.oneCell') = true := by
  obtain ⟨A12, c12, A13, c13, A14, c14, A15, c15, A21, c21, rfl, ok, ⟨hr12, hc12⟩, ⟨hr13, hc13⟩, ⟨hr14, hc14⟩, ⟨hr15, hc15⟩, ⟨hr21, hc21⟩⟩ := h
  simp [Value.oneCell']
theorem IsMsg.good {w : World} {cx : Array Value} {m : Msg} (h : IsMsg w cx m) : goodM m := by
  obtain ⟨A12, c12, A13, c13, A14, c14, A15, c15, A21, c21, rfl, ok, ⟨hr12, hc12⟩, ⟨hr13, hc13⟩, ⟨hr14, hc14⟩, ⟨hr15, hc15⟩, ⟨hr21, hc21⟩⟩ := h
  exact ok
theorem msg_info {cx : Array Value} (h : cx.size = 22) : (Try.prog.info? 30).map (·.size) = some cx.size := by rw [h]; kernel_rfl
def celled (cx : Array Value) (i : Nat) (v : Value) : Prop := cx[i]? = some v
theorem IsMsg.celled {w : World} {cx : Array Value} {m : Msg} (h : IsMsg w cx m) : Same.celled cx 0 (.int .u8 m.code) ∧ Same.celled cx 1 (.int .u8 m.fail) ∧ Same.celled cx 2 (.int .u16 m.addr) ∧ Same.celled cx 3 (.int .u16 m.count) ∧ Same.celled cx 4 (.int .u16 m.value) ∧ Same.celled cx 5 (.int .u16 m.and_) ∧ Same.celled cx 6 (.int .u16 m.or_) ∧ Same.celled cx 7 (.int .u16 m.addr2) ∧ Same.celled cx 8 (.int .u16 m.sub) ∧ Same.celled cx 9 (.int .u16 m.status) ∧ Same.celled cx 10 (.int .u16 m.events) ∧ Same.celled cx 11 (.int .u16 m.messages) ∧ Same.celled cx 16 (.int .u8 m.mei) ∧ Same.celled cx 17 (.int .u8 m.kind) ∧ Same.celled cx 18 (.int .u8 m.level) ∧ Same.celled cx 19 (.int .u8 m.more) ∧ Same.celled cx 20 (.int .u8 m.next) := by
  obtain ⟨A12, c12, A13, c13, A14, c14, A15, c15, A21, c21, rfl, ok, ⟨hr12, hc12⟩, ⟨hr13, hc13⟩, ⟨hr14, hc14⟩, ⟨hr15, hc15⟩, ⟨hr21, hc21⟩⟩ := h
  exact ⟨rfl, rfl, rfl, rfl, rfl, rfl, rfl, rfl, rfl, rfl, rfl, rfl, rfl, rfl, rfl, rfl, rfl⟩
section
variable {w W : World} {g : Nat} {cx : Array Value} {t : TypeId} {m : Msg} (hb : w.heap[g]? = some (.cells cx t (0, 0))) (h : IsMsg W cx m)
include hb h
theorem bx_code : w.cell? ⟨g, 0, none⟩ = some (.int .u8 m.code) := (blk_cell hb 0).trans h.celled.1
end
theorem goodM_num {m : Msg} (h : goodM m) : ((0 ≤ m.code ∧ m.code < 256) ∧ (0 ≤ m.fail ∧ m.fail < 256) ∧ (0 ≤ m.addr ∧ m.addr < 65536) ∧ (0 ≤ m.count ∧ m.count < 65536) ∧ (0 ≤ m.value ∧ m.value < 65536) ∧ (0 ≤ m.and_ ∧ m.and_ < 65536) ∧ (0 ≤ m.or_ ∧ m.or_ < 65536) ∧ (0 ≤ m.addr2 ∧ m.addr2 < 65536) ∧ (0 ≤ m.sub ∧ m.sub < 65536) ∧ (0 ≤ m.status ∧ m.status < 65536) ∧ (0 ≤ m.events ∧ m.events < 65536) ∧ (0 ≤ m.messages ∧ m.messages < 65536) ∧ (0 ≤ m.mei ∧ m.mei < 256) ∧ (0 ≤ m.kind ∧ m.kind < 256) ∧ (0 ≤ m.level ∧ m.level < 256) ∧ (0 ≤ m.more ∧ m.more < 256) ∧ (0 ≤ m.next ∧ m.next < 256)) ∧ isBytes m.data ∧ (∀ o ∈ m.objects, isBytes o.f1) := by
  obtain ⟨h1, _⟩ := h
  simp only [okM, u8B, u16B, Bool.and_eq_true, decide_eq_true_eq, List.all_eq_true] at h1
  obtain ⟨⟨⟨⟨⟨⟨⟨⟨⟨⟨⟨⟨⟨⟨⟨⟨⟨⟨a0, a1⟩, a2⟩, a3⟩, a4⟩, a5⟩, a6⟩, a7⟩, a8⟩, a9⟩, a10⟩, a11⟩, a16⟩, a17⟩, a18⟩, a19⟩, a20⟩, a14⟩, a21⟩ := h1
  exact ⟨⟨a0, a1, a2, a3, a4, a5, a6, a7, a8, a9, a10, a11, a16, a17, a18, a19, a20⟩, a14, fun o ho x hx => a21 o ho x hx⟩
theorem IsMsg.lists {w : World} {cx : Array Value} {m : Msg} (h : IsMsg w cx m) : ∃ (A12 : Option Addr) (c12 : Nat) (A13 : Option Addr) (c13 : Nat) (A14 : Option Addr) (c14 : Nat) (A15 : Option Addr) (c15 : Nat) (A21 : Option Addr) (c21 : Nat),
    (Same.celled cx 12 (.slice A12 m.words.length c12) ∧ Same.celled cx 13 (.slice A13 m.bits.length c13) ∧ Same.celled cx 14 (.slice A14 m.data.length c14) ∧ Same.celled cx 15 (.slice A15 m.recs.length c15) ∧ Same.celled cx 21 (.slice A21 m.objects.length c21)) ∧ (Kd.C (Kd.int .u16) w A12 m.words.length m.words ∧ m.words.length ≤ c12) ∧ (Kd.C Kd.bool w A13 m.bits.length m.bits ∧ m.bits.length ≤ c13) ∧ (Kd.C (Kd.int .u8) w A14 m.data.length m.data ∧ m.data.length ≤ c14) ∧ (Kd.C k43 w A15 m.recs.length m.recs ∧ m.recs.length ≤ c15) ∧ (Kd.C k69 w A21 m.objects.length m.objects ∧ m.objects.length ≤ c21) := by
  obtain ⟨A12, c12, A13, c13, A14, c14, A15, c15, A21, c21, rfl, ok, h12, h13, h14, h15, h21⟩ := h
  exact ⟨A12, c12, A13, c13, A14, c14, A15, c15, A21, c21, ⟨rfl, rfl, rfl, rfl, rfl⟩, h12, h13, h14, h15, h21⟩
end Go.Proofs.Ytdjeekpgcjcffaa.Same
end
section
namespace Go.Proofs.Ytdjeekpgcjcffaa.Same
open Go.RowKit Go.Proofs.Ytdjeekpgcjcffaa.P Go.Proofs.Ytdjeekpgcjcffaa.E Go.Proofs.YtdjeekpgcjcffaaW.PrintWords Go.Proofs.YtdjeekpgcjcffaaW.PrintLast Go.Proofs.YtdjeekpgcjcffaaW.PrintMore
section
variable {P : Program} {md : Region.Mode} {ops : Array Oper} {Q : Exit → Act → World → Prop} {S : World → Prop} {ds : List Nat}
theorem gtake_ {i : Nat} {N : Option Tmp} {oi : Oper} {V : Value} {B : Bool} {fuel : Nat} {l : Array Bool} {a : Act} {w : World} (l' : Array Bool) (hi : ops[i]? = some oi) (hN : oi.dst = N) (hc : takeB md ops ds l l' i = true)
    (hQ : ∀ v c a w, Q (.panic c) (a.put oi.dst v) w → Q (.panic c) a w) (hS : S w) (hy : ∃ u, (B = true → u = V) ∧ YieldsIf P ops S oi u a)
    (h : ∀ u, (B = true → u = V) → wpAnyLast P md ops Q S ds fuel l' (a.put N u) w) : wpAnyLast P md ops Q S ds (fuel + 1) l a w := by
  obtain ⟨u, hu, hy⟩ := hy
  exact take_ l' hi hN hc (hQ u) hy hS rfl (h u hu)
theorem gpure_ {i : Nat} {N : Option Tmp} {oi : Oper} {V : Value} {B : Bool} {fuel : Nat} {l : Array Bool} {a : Act} {w : World} (l' : Array Bool) (hi : ops[i]? = some oi) (hN : oi.dst = N) (hc : anyB md ops l l' i = true)
    (hQ : ∀ v c a w, Q (.panic c) (a.put oi.dst v) w → Q (.panic c) a w) (hy : ∃ u, (B = true → u = V) ∧ Yields P ops oi u a)
    (h : ∀ u, (B = true → u = V) → wpAnyLast P md ops Q S ds fuel l' (a.put N u) w) : wpAnyLast P md ops Q S ds (fuel + 1) l a w := by
  obtain ⟨u, hu, hy⟩ := hy
  exact pure_ l' hi hN hc (hQ u) hy rfl (h u hu)
theorem gone_ {i : Nat} {N : Option Tmp} {oi : Oper} {V : Value} {B : Bool} {fuel : Nat} {l : Array Bool} {a : Act} {w : World} (l' : Array Bool) (hi : ops[i]? = some oi) (hN : oi.dst = N) (hc : readyB md ops l l' i = true) (hd : i ∉ ds)
    (h1 : ∀ K : Act → World → Prop, (∀ u w', S w' → (B = true → u = V) → K (a.put N u) w') → if Region.wanted oi (yielded ops a.tmps) = true then Oper.wp P oi a w K Q else K (a.put N undef) w)
    (h : ∀ u w', S w' → (B = true → u = V) → wpAnyLast P md ops Q S ds fuel l' (a.put N u) w') : wpAnyLast P md ops Q S ds (fuel + 1) l a w :=
  one_ l' hi hN hc hd fun K hK => h1 K fun u w' hS hT => hK.out _ _ hS fun _ => h u w' hS hT
end
end Go.Proofs.Ytdjeekpgcjcffaa.Same
end
section
namespace Go.Proofs.Ytdjeekpgcjcffaa.Same
open Go.RowKit Go.Proofs.Ytdjeekpgcjcffaa.P Go.Proofs.Ytdjeekpgcjcffaa.E Go.Proofs.YtdjeekpgcjcffaaW.PrintWords Go.Proofs.YtdjeekpgcjcffaaW.PrintLast Go.Proofs.YtdjeekpgcjcffaaW.PrintMore
def bm (n m : Nat) : Array Bool := ⟨(List.range n).map fun i => m.testBit i⟩
def same.T1 : Bool × List (List Nat × List Nat) := (true, [([], []), ([0], [0]), ([], []), ([2, 1], [2]), ([1, 3], [1, 3]), ([4, 3], [4]), ([5], [5]), ([6, 5], [5, 6]), ([5], [5]), ([8, 5], [5, 8]), ([7, 9, 5, 5], [5, 7, 9]), ([5, 10], [5, 10]), ([11, 10], [11]), ([12], [12]), ([13, 12], [12, 13]), ([12], [12]), ([15, 12], [12, 15]), ([14, 16, 12, 12], [12, 14, 16]), ([12, 17], [12, 17]), ([18, 17], [18]), ([19], [19]), ([20, 19], [19, 20]), ([21, 19], [19, 21]), ([19], [19]), ([23, 19], [19, 23]), ([24, 19], [19, 24]), ([22, 25, 19], [19, 22, 25]), ([19, 26], [19, 26]), ([27, 19], [27]), ([28], [28]), ([29, 28], [28, 29]), ([28], [28]), ([31, 28], [28, 31]), ([30, 32, 28, 28], [28, 30, 32]), ([28, 33], [28, 33]), ([34, 33], [34]), ([35], [35]), ([36, 35], [35, 36]), ([35], [35]), ([38, 35], [35, 38]), ([37, 39, 35, 35], [35, 37, 39]), ([35, 40], [35, 40]), ([41, 40, 0, 1, 2, 3, 4, 5, 6, 7, 8, 9, 10, 11, 12, 13, 14, 15, 16, 17, 18, 19, 20, 21, 22, 23, 24, 25, 26, 27, 28, 29, 30, 31, 32, 33, 34, 35, 36, 37, 38, 39, 40, 41], [41])])
def same.B1 : List Nat := [0, 1, 0, 7, 15, 31, 63, 127, 63, 319, 1023, 2047, 4095, 8191, 16383, 8191, 40959, 131071, 262143, 524287, 1048575, 2097151, 4194303, 1048575, 9437183, 26214399, 67108863, 134217727, 268435455, 536870911, 1073741823, 536870911, 2684354559, 8589934591, 17179869183, 34359738367, 68719476735, 137438953471, 68719476735, 343597383679, 1099511627775, 2199023255551, 4398046511103]
theorem same.tab1 : rtab .any (opsOf Try.f32 1) = same.T1 := by kernel_rfl
theorem same.bits1 : waitsOk same.T1.2 same.B1 = true := by kernel_rfl
def plainC (m : Msg) : Array Value := #[.int .u16 m.code, .int .u16 m.fail, .int .u16 m.addr, .int .u16 m.count, .int .u16 m.value, .int .u16 m.and_, .int .u16 m.or_, .int .u16 m.addr2, .int .u16 m.sub, .int .u16 m.status, .int .u16 m.events, .int .u16 m.messages, .int .u16 (shB m.mei m.kind), .int .u16 (shB m.level m.more), .int .u16 m.next]
theorem plain_msg {cx : Array Value} {m : Msg} {w : World} (hm : IsMsg w cx m) : Calls Try.prog 50 #[.agg cx] w fun e w' => e = .returned (.agg (plainC m)) ∧ Below w.heap.size w w' := by
  obtain ⟨⟨a0, a1, _, _, _, _, _, _, _, _, _, _, a16, a17, a18, a19, a20⟩, _⟩ := goodM_num hm.good
  obtain ⟨A12, c12, A13, c13, A14, c14, A15, c15, A21, c21, rfl, ok, h12, h13, h14, h15, h21⟩ := hm
  exact plain_any m A12 c12 A13 c13 A14 c14 A15 c15 A21 c21 w a0.1 a0.2 a1.1 a1.2 a16.1 a16.2 a17.1 a17.2 a18.1 a18.2 a19.1 a19.2 a20.1 a20.2
theorem plain_eqs {x y : Msg} (gx : goodM x) (gy : goodM y) (d : Nat) (w : World) : (Op.equalIn (d + 3) 82 (.agg (plainC x)) (.agg (plainC y))).run Try.prog w = .ok (plainB x y) w := by
  obtain ⟨⟨a0, a1, _, _, _, _, _, _, _, _, _, _, a16, a17, a18, a19, a20⟩, _⟩ := goodM_num gx
  obtain ⟨⟨b0, b1, _, _, _, _, _, _, _, _, _, _, b16, b17, b18, b19, b20⟩, _⟩ := goodM_num gy
  rw [← plain_eq x y a0 a1 a16 a17 a18 a19 a20 b0 b1 b16 b17 b18 b19 b20]
  exact eqL15 d w _ _ _ _ _ _ _ _ _ _ _ _ _ _ _ _ _ _ _ _ _ _ _ _ _ _ _ _ _ _
theorem eqw_c {l m : List Int} {A B : Option Addr} {c d : Nat} {W : World} (rl : Kd.C (Kd.int .u16) W A l.length l) (zl : l.length ≤ c) (rm : Kd.C (Kd.int .u16) W B m.length m) (zm : m.length ≤ d) :
    Calls Try.prog 51 #[.slice A l.length c, .slice B m.length d] W fun e w' => e = .returned (.bool (l == m)) ∧ Below W.heap.size W w' := by
  obtain ⟨k, hk⟩ := (slices_Equal_uint16_uint16_ev l m rl.2.1).rounds
  refine (slices_Equal_uint16_uint16.calls k A c l B d m _ W rl zl rm zm hk).mono ?_
  rintro e w' ⟨rfl, n, rfl⟩
  exact ⟨rfl, pw_below_drewN (Below.refl _ _) _⟩
theorem eqb_c {l m : List Bool} {A B : Option Addr} {c d : Nat} {W : World} (rl : Kd.C Kd.bool W A l.length l) (zl : l.length ≤ c) (rm : Kd.C Kd.bool W B m.length m) (zm : m.length ≤ d) :
    Calls Try.prog 52 #[.slice A l.length c, .slice B m.length d] W fun e w' => e = .returned (.bool (l == m)) ∧ Below W.heap.size W w' := by
  obtain ⟨k, hk⟩ := (slices_Equal_bool_bool_ev l m rl.2.1).rounds
  refine (slices_Equal_bool_bool.calls k A c l B d m _ W rl zl rm zm hk).mono ?_
  rintro e w' ⟨rfl, n, rfl⟩
  exact ⟨rfl, pw_below_drewN (Below.refl _ _) _⟩
theorem same_msg {cx cy : Array Value} {x y : Msg} {w : World} (hx : IsMsg w cx x) (hy : IsMsg w cy y) : Calls Try.prog 32 #[.agg cx, .agg cy] w fun e w' => e = .returned (.bool (sameB x y)) ∧ Below w.heap.size w w' := by
  obtain ⟨Ax12, cx12, Ax13, cx13, Ax14, cx14, Ax15, cx15, Ax21, cx21, ⟨l12, l13, l14, l15, l21⟩, r12, r13, r14, r15, r21⟩ := hx.lists
  have LX12 := Aside0.mk l12
  have RX12 := Aside0.mk r12
  have LX13 := Aside0.mk l13
  have RX13 := Aside0.mk r13
  have LX14 := Aside0.mk l14
  have RX14 := Aside0.mk r14
  have LX15 := Aside0.mk l15
  have RX15 := Aside0.mk r15
  have LX21 := Aside0.mk l21
  have RX21 := Aside0.mk r21
  clear l12 l13 l14 l15 l21 r12 r13 r14 r15 r21
  have MX := Aside0.mk hx
  have szx := hx.size
  have GX := Aside0.mk hx.good
  have OX := Aside0.mk (fun q hq => List.all_eq_true.2 (fun z hz => by have := (goodM_num hx.good).2.2 q hq z hz; unfold u8B; simp only [Bool.and_eq_true, decide_eq_true_eq]; omega) : ∀ q ∈ x.objects, q.f1.all u8B = true)
  obtain ⟨Ay12, cy12, Ay13, cy13, Ay14, cy14, Ay15, cy15, Ay21, cy21, ⟨l12, l13, l14, l15, l21⟩, r12, r13, r14, r15, r21⟩ := hy.lists
  have LY12 := Aside0.mk l12
  have RY12 := Aside0.mk r12
  have LY13 := Aside0.mk l13
  have RY13 := Aside0.mk r13
  have LY14 := Aside0.mk l14
  have RY14 := Aside0.mk r14
  have LY15 := Aside0.mk l15
  have RY15 := Aside0.mk r15
  have LY21 := Aside0.mk l21
  have RY21 := Aside0.mk r21
  clear l12 l13 l14 l15 l21 r12 r13 r14 r15 r21
  have MY := Aside0.mk hy
  have szy := hy.size
  have GY := Aside0.mk hy.good
  have OY := Aside0.mk (fun q hq => List.all_eq_true.2 (fun z hz => by have := (goodM_num hy.good).2.2 q hq z hz; unfold u8B; simp only [Bool.and_eq_true, decide_eq_true_eq]; omega) : ∀ q ∈ y.objects, q.f1.all u8B = true)
  have HPE := Aside0.mk (fun d W => plain_eqs GX.out GY.out d W)
  have DEQ := Aside0.mk (str_beq (goodM_num GX.out).2.1 (goodM_num GY.out).2.1)
  clear hx hy
  unfold sameB
  generalize plainB x y = b0 at HPE ⊢
  have hu1 := Try.underlying30
  go_enter Try.func32, Try.ntmps32
  go_upto_region 1 with (fail)
  refine start_ (n := 43) (S := fun w' => w'.heap[w.heap.size]? = some (.cells cx 30 (0, 0)) ∧ w'.heap[w.heap.size + 1]? = some (.cells cy 30 (0, 0)) ∧ Aside0 (Below w.heap.size w w')) (ds := []) (bm 43 0) (by as_aux_lemma => kernel_rfl) rfl (by as_aux_lemma => kernel_rfl) ⟨heap_x w cx cy 30, heap_y w cx cy 30, Aside0.mk (((Below.refl _ _).alloc (Nat.le_refl _) _).alloc (by simp) _).drew⟩ (fun hHeld => ?_)
  generalize World.drew _ = wd at hHeld ⊢
  refine with_tabW same.tab1 same.bits1 (fun HT_ HW_ => ?_)
  refine take_ (i := 0) (N := some 5) (v := ?_) (a' := ?_) (bm 43 1) rfl rfl (take_ofW HT_.out HW_.out (by as_aux_lemma => kernel_rfl)) (fun _ _ _ h => h) (Or.inl ⟨by rfl, ?_⟩) hHeld ?_ ?_
  rotate_left
  · rintro w' ⟨s0, s1, s2⟩
    refine exec_load_row 30 (.tmp 2) ?ha_0 (w.heap.size) ?hb_0 _ _ _ _ s0 Try.underlying30 ?hc_0 (msg_info szx)
    case ha_0 => rfl
    case hb_0 => rfl
    exact rfl
  rotate_left
  · simp only [Act.put, List.setIfInBounds_toArray, List.set_cons_zero, List.set_cons_succ, i64_w, i32_w]
    rfl
  refine take_ (i := 2) (N := some 7) (v := ?_) (a' := ?_) (bm 43 5) rfl rfl (take_ofW HT_.out HW_.out (by as_aux_lemma => kernel_rfl)) (fun _ _ _ h => h) (Or.inl ⟨by rfl, ?_⟩) hHeld ?_ ?_
  rotate_left
  · rintro w' ⟨s0, s1, s2⟩
    refine exec_load_row 30 (.tmp 3) ?ha_2 (w.heap.size + 1) ?hb_2 _ _ _ _ s1 Try.underlying30 ?hc_2 (msg_info szy)
    case ha_2 => rfl
    case hb_2 => rfl
    exact rfl
  rotate_left
  · simp only [Act.put, List.setIfInBounds_toArray, List.set_cons_zero, List.set_cons_succ, i64_w, i32_w]
    rfl
  refine one_ (i := 1) (N := some 6) (bm 43 7) rfl rfl (one_of HT_.out (by as_aux_lemma => kernel_rfl)) (by as_aux_lemma => decide) (fun K hK => ?_)
  refine goes_ Try.func50 (by as_aux_lemma => kernel_rfl) rfl #[.agg cx] (by rfl) rfl rfl (by simp only [List.map_toArray, List.map_cons, List.map_nil]; rfl) ?_
  with_reducible refine (plain_msg (MX.out.on hHeld.2.2.out)).mono ?_
  rintro e wq1 ⟨rfl, hb⟩
  refine ⟨_, rfl, ?_⟩
  refine hK.out _ _ ⟨blk_below hHeld.1 hb, blk_below hHeld.2.1 hb, Aside0.mk (below_step hHeld.2.2.out hb)⟩ (fun hHeld => ?_)
  clear hK K hb
  refine norm_ (a' := ?_) ?_ ?_
  rotate_left
  · simp only [Act.put, List.setIfInBounds_toArray, List.set_cons_zero, List.set_cons_succ, i64_w, i32_w]
    rfl
  refine one_ (i := 3) (N := some 8) (bm 43 15) rfl rfl (one_of HT_.out (by as_aux_lemma => kernel_rfl)) (by as_aux_lemma => decide) (fun K hK => ?_)
  refine goes_ Try.func50 (by as_aux_lemma => kernel_rfl) rfl #[.agg cy] (by rfl) rfl rfl (by simp only [List.map_toArray, List.map_cons, List.map_nil]; rfl) ?_
  with_reducible refine (plain_msg (MY.out.on hHeld.2.2.out)).mono ?_
  rintro e wq3 ⟨rfl, hb⟩
  refine ⟨_, rfl, ?_⟩
  refine hK.out _ _ ⟨blk_below hHeld.1 hb, blk_below hHeld.2.1 hb, Aside0.mk (below_step hHeld.2.2.out hb)⟩ (fun hHeld => ?_)
  clear hK K hb
  refine norm_ (a' := ?_) ?_ ?_
  rotate_left
  · simp only [Act.put, List.setIfInBounds_toArray, List.set_cons_zero, List.set_cons_succ, i64_w, i32_w]
    rfl
  refine pure_ (i := 4) (N := some 9) (v := (.bool b0)) (a' := ?_) (bm 43 31) rfl rfl (any_of HT_.out (by as_aux_lemma => kernel_rfl)) (fun _ _ _ h => h) (Or.inl ⟨by rfl, ?_⟩) ?_ ?_
  · intro w'
    have hpe : (Op.equalIn 10000 82 (.agg (plainC x)) (.agg (plainC y))).run Try.prog w' = .ok b0 w' := HPE.out 9997 w'
    go_simp
    first | done | rfl | with_reducible rfl
  rotate_left
  · simp only [Act.put, List.setIfInBounds_toArray, List.set_cons_zero, List.set_cons_succ, i64_w, i32_w]
    rfl
  refine pure_ (i := 5) (N := some 10) (v := ?_) (a' := ?_) (bm 43 63) rfl rfl (any_of HT_.out (by as_aux_lemma => kernel_rfl)) (fun _ _ _ h => h) (Or.inl ⟨by rfl, ?_⟩) ?_ ?_
  rotate_left
  · intro w'
    go_simp
    with_reducible rfl
  rotate_left
  · simp only [Act.put, List.setIfInBounds_toArray, List.set_cons_zero, List.set_cons_succ, i64_w, i32_w]
    rfl
  refine gpure_ (i := 6) (N := some 11) (V := (.pointer (some ⟨w.heap.size, 12, none⟩))) (B := b0) (bm 43 127) rfl rfl (any_of HT_.out (by as_aux_lemma => kernel_rfl)) (fun _ _ _ _ h => h) ?_ ?_
  · cases b0 with
    | false => exact ⟨undef, (fun h => by cases h), Or.inr ⟨by rfl, rfl⟩⟩
    | true =>
      refine ⟨_, fun _ => rfl, Or.inl ⟨by rfl, ?_⟩⟩
      intro w'
      go_simp
      first | done | rfl
  intro u11 hu11_
  refine norm_ (a' := ?_) ?_ ?_
  rotate_left
  · simp only [Act.put, List.setIfInBounds_toArray, List.set_cons_zero, List.set_cons_succ, i64_w, i32_w]
    rfl
  refine gtake_ (i := 7) (N := some 12) (V := (.slice Ax12 x.words.length cx12)) (B := b0) (bm 43 255) rfl rfl (take_ofW HT_.out HW_.out (by as_aux_lemma => kernel_rfl)) (fun _ _ _ _ h => h) hHeld ?_ ?_
  · cases b0 with
    | false => exact ⟨undef, (fun h => by cases h), Or.inr ⟨by rfl, rfl⟩⟩
    | true =>
      obtain rfl := hu11_ rfl
      refine ⟨_, fun _ => rfl, Or.inl ⟨by rfl, ?_⟩⟩
      rintro w' ⟨s0, s1, s2⟩
      have hk_ := (blk_cell s0 12).trans LX12.out
      go_simp
      first | done | rfl
  intro u12 hu12_
  refine norm_ (a' := ?_) ?_ ?_
  rotate_left
  · simp only [Act.put, List.setIfInBounds_toArray, List.set_cons_zero, List.set_cons_succ, i64_w, i32_w]
    rfl
  refine gpure_ (i := 8) (N := some 13) (V := (.pointer (some ⟨w.heap.size + 1, 12, none⟩))) (B := b0) (bm 43 511) rfl rfl (any_of HT_.out (by as_aux_lemma => kernel_rfl)) (fun _ _ _ _ h => h) ?_ ?_
  · cases b0 with
    | false => exact ⟨undef, (fun h => by cases h), Or.inr ⟨by rfl, rfl⟩⟩
    | true =>
      obtain rfl := hu11_ rfl
      obtain rfl := hu12_ rfl
      refine ⟨_, fun _ => rfl, Or.inl ⟨by rfl, ?_⟩⟩
      intro w'
      go_simp
      first | done | rfl
  intro u13 hu13_
  refine norm_ (a' := ?_) ?_ ?_
  rotate_left
  · simp only [Act.put, List.setIfInBounds_toArray, List.set_cons_zero, List.set_cons_succ, i64_w, i32_w]
    rfl
  refine gtake_ (i := 9) (N := some 14) (V := (.slice Ay12 y.words.length cy12)) (B := b0) (bm 43 1023) rfl rfl (take_ofW HT_.out HW_.out (by as_aux_lemma => kernel_rfl)) (fun _ _ _ _ h => h) hHeld ?_ ?_
  · cases b0 with
    | false => exact ⟨undef, (fun h => by cases h), Or.inr ⟨by rfl, rfl⟩⟩
    | true =>
      obtain rfl := hu11_ rfl
      obtain rfl := hu12_ rfl
      obtain rfl := hu13_ rfl
      refine ⟨_, fun _ => rfl, Or.inl ⟨by rfl, ?_⟩⟩
      rintro w' ⟨s0, s1, s2⟩
      have hk_ := (blk_cell s1 12).trans LY12.out
      go_simp
      first | done | rfl
  intro u14 hu14_
  refine norm_ (a' := ?_) ?_ ?_
  rotate_left
  · simp only [Act.put, List.setIfInBounds_toArray, List.set_cons_zero, List.set_cons_succ, i64_w, i32_w]
    rfl
  refine gone_ (i := 10) (N := some 15) (V := (.bool (x.words == y.words))) (B := b0) (bm 43 2047) rfl rfl (one_of HT_.out (by as_aux_lemma => kernel_rfl)) (by as_aux_lemma => decide) (fun K hK => ?_) ?_
  · cases b0 with
    | false => exact off_ (by rfl) (hK _ _ hHeld (fun h => by cases h))
    | true =>
      obtain rfl := hu11_ rfl
      obtain rfl := hu12_ rfl
      obtain rfl := hu13_ rfl
      obtain rfl := hu14_ rfl
      refine goes_ Try.func51 (by as_aux_lemma => kernel_rfl) rfl #[.slice Ax12 x.words.length cx12, .slice Ay12 y.words.length cy12] (by rfl) rfl rfl (by simp only [List.map_toArray, List.map_cons, List.map_nil]; rfl) ?_
      with_reducible refine (eqw_c (Kd.C_below RX12.out.1 hHeld.2.2.out) RX12.out.2 (Kd.C_below RY12.out.1 hHeld.2.2.out) RY12.out.2).mono ?_
      rintro e wq ⟨rfl, hb⟩
      exact ⟨_, rfl, hK _ _ ⟨blk_below hHeld.1 hb, blk_below hHeld.2.1 hb, Aside0.mk (below_step hHeld.2.2.out hb)⟩ (fun _ => rfl)⟩
  clear hHeld
  intro u15 w10 hHeld hu15_
  refine norm_ (a' := ?_) ?_ ?_
  rotate_left
  · simp only [Act.put, List.setIfInBounds_toArray, List.set_cons_zero, List.set_cons_succ, i64_w, i32_w]
    rfl
  obtain ⟨q1, eq1_⟩ : ∃ z, z = (b0 && (x.words == y.words)) := ⟨_, rfl⟩
  have Eq1 := Aside0.mk eq1_
  clear eq1_
  refine pure_ (i := 11) (N := some 16) (v := (.bool q1)) (a' := ?_) (bm 43 4095) rfl rfl (any_of HT_.out (by as_aux_lemma => kernel_rfl)) (fun _ _ _ h => h) (Or.inl ⟨by rfl, ?_⟩) ?_ ?_
  · intro w'
    rw [Eq1.out]
    cases b0 with
    | false => go_simp; first | done | rfl
    | true =>
      obtain rfl := hu15_ rfl
      go_simp
      first | done | rfl
  rotate_left
  · simp only [Act.put, List.setIfInBounds_toArray, List.set_cons_zero, List.set_cons_succ, i64_w, i32_w]
    rfl
  clear hu11_
  clear hu12_
  clear hu13_
  clear hu14_
  clear hu15_
  refine pure_ (i := 12) (N := some 17) (v := ?_) (a' := ?_) (bm 43 8191) rfl rfl (any_of HT_.out (by as_aux_lemma => kernel_rfl)) (fun _ _ _ h => h) (Or.inl ⟨by rfl, ?_⟩) ?_ ?_
  rotate_left
  · intro w'
    go_simp
    with_reducible rfl
  rotate_left
  · simp only [Act.put, List.setIfInBounds_toArray, List.set_cons_zero, List.set_cons_succ, i64_w, i32_w]
    rfl
  refine gpure_ (i := 13) (N := some 18) (V := (.pointer (some ⟨w.heap.size, 13, none⟩))) (B := q1) (bm 43 16383) rfl rfl (any_of HT_.out (by as_aux_lemma => kernel_rfl)) (fun _ _ _ _ h => h) ?_ ?_
  · cases q1 with
    | false => exact ⟨undef, (fun h => by cases h), Or.inr ⟨by rfl, rfl⟩⟩
    | true =>
      refine ⟨_, fun _ => rfl, Or.inl ⟨by rfl, ?_⟩⟩
      intro w'
      go_simp
      first | done | rfl
  intro u18 hu18_
  refine norm_ (a' := ?_) ?_ ?_
  rotate_left
  · simp only [Act.put, List.setIfInBounds_toArray, List.set_cons_zero, List.set_cons_succ, i64_w, i32_w]
    rfl
  refine gtake_ (i := 14) (N := some 19) (V := (.slice Ax13 x.bits.length cx13)) (B := q1) (bm 43 32767) rfl rfl (take_ofW HT_.out HW_.out (by as_aux_lemma => kernel_rfl)) (fun _ _ _ _ h => h) hHeld ?_ ?_
  · cases q1 with
    | false => exact ⟨undef, (fun h => by cases h), Or.inr ⟨by rfl, rfl⟩⟩
    | true =>
      obtain rfl := hu18_ rfl
      refine ⟨_, fun _ => rfl, Or.inl ⟨by rfl, ?_⟩⟩
      rintro w' ⟨s0, s1, s2⟩
      have hk_ := (blk_cell s0 13).trans LX13.out
      go_simp
      first | done | rfl
  intro u19 hu19_
  refine norm_ (a' := ?_) ?_ ?_
  rotate_left
  · simp only [Act.put, List.setIfInBounds_toArray, List.set_cons_zero, List.set_cons_succ, i64_w, i32_w]
    rfl
  refine gpure_ (i := 15) (N := some 20) (V := (.pointer (some ⟨w.heap.size + 1, 13, none⟩))) (B := q1) (bm 43 65535) rfl rfl (any_of HT_.out (by as_aux_lemma => kernel_rfl)) (fun _ _ _ _ h => h) ?_ ?_
  · cases q1 with
    | false => exact ⟨undef, (fun h => by cases h), Or.inr ⟨by rfl, rfl⟩⟩
    | true =>
      obtain rfl := hu18_ rfl
      obtain rfl := hu19_ rfl
      refine ⟨_, fun _ => rfl, Or.inl ⟨by rfl, ?_⟩⟩
      intro w'
      go_simp
      first | done | rfl
  intro u20 hu20_
  refine norm_ (a' := ?_) ?_ ?_
  rotate_left
  · simp only [Act.put, List.setIfInBounds_toArray, List.set_cons_zero, List.set_cons_succ, i64_w, i32_w]
    rfl
  refine gtake_ (i := 16) (N := some 21) (V := (.slice Ay13 y.bits.length cy13)) (B := q1) (bm 43 131071) rfl rfl (take_ofW HT_.out HW_.out (by as_aux_lemma => kernel_rfl)) (fun _ _ _ _ h => h) hHeld ?_ ?_
  · cases q1 with
    | false => exact ⟨undef, (fun h => by cases h), Or.inr ⟨by rfl, rfl⟩⟩
    | true =>
      obtain rfl := hu18_ rfl
      obtain rfl := hu19_ rfl
      obtain rfl := hu20_ rfl
      refine ⟨_, fun _ => rfl, Or.inl ⟨by rfl, ?_⟩⟩
      rintro w' ⟨s0, s1, s2⟩
      have hk_ := (blk_cell s1 13).trans LY13.out
      go_simp
      first | done | rfl
  intro u21 hu21_
  refine norm_ (a' := ?_) ?_ ?_
  rotate_left
  · simp only [Act.put, List.setIfInBounds_toArray, List.set_cons_zero, List.set_cons_succ, i64_w, i32_w]
    rfl
  refine gone_ (i := 17) (N := some 22) (V := (.bool (x.bits == y.bits))) (B := q1) (bm 43 262143) rfl rfl (one_of HT_.out (by as_aux_lemma => kernel_rfl)) (by as_aux_lemma => decide) (fun K hK => ?_) ?_
  · cases q1 with
    | false => exact off_ (by rfl) (hK _ _ hHeld (fun h => by cases h))
    | true =>
      obtain rfl := hu18_ rfl
      obtain rfl := hu19_ rfl
      obtain rfl := hu20_ rfl
      obtain rfl := hu21_ rfl
      refine goes_ Try.func52 (by as_aux_lemma => kernel_rfl) rfl #[.slice Ax13 x.bits.length cx13, .slice Ay13 y.bits.length cy13] (by rfl) rfl rfl (by simp only [List.map_toArray, List.map_cons, List.map_nil]; rfl) ?_
      with_reducible refine (eqb_c (Kd.C_below RX13.out.1 hHeld.2.2.out) RX13.out.2 (Kd.C_below RY13.out.1 hHeld.2.2.out) RY13.out.2).mono ?_
      rintro e wq ⟨rfl, hb⟩
      exact ⟨_, rfl, hK _ _ ⟨blk_below hHeld.1 hb, blk_below hHeld.2.1 hb, Aside0.mk (below_step hHeld.2.2.out hb)⟩ (fun _ => rfl)⟩
  clear hHeld
  intro u22 w17 hHeld hu22_
  refine norm_ (a' := ?_) ?_ ?_
  rotate_left
  · simp only [Act.put, List.setIfInBounds_toArray, List.set_cons_zero, List.set_cons_succ, i64_w, i32_w]
    rfl
  obtain ⟨q2, eq2_⟩ : ∃ z, z = (q1 && (x.bits == y.bits)) := ⟨_, rfl⟩
  have Eq2 := Aside0.mk eq2_
  clear eq2_
  refine pure_ (i := 18) (N := some 23) (v := (.bool q2)) (a' := ?_) (bm 43 524287) rfl rfl (any_of HT_.out (by as_aux_lemma => kernel_rfl)) (fun _ _ _ h => h) (Or.inl ⟨by rfl, ?_⟩) ?_ ?_
  · intro w'
    rw [Eq2.out]
    cases q1 with
    | false => go_simp; first | done | rfl
    | true =>
      obtain rfl := hu22_ rfl
      go_simp
      first | done | rfl
  rotate_left
  · simp only [Act.put, List.setIfInBounds_toArray, List.set_cons_zero, List.set_cons_succ, i64_w, i32_w]
    rfl
  clear hu18_
  clear hu19_
  clear hu20_
  clear hu21_
  clear hu22_
  refine pure_ (i := 19) (N := some 24) (v := ?_) (a' := ?_) (bm 43 1048575) rfl rfl (any_of HT_.out (by as_aux_lemma => kernel_rfl)) (fun _ _ _ h => h) (Or.inl ⟨by rfl, ?_⟩) ?_ ?_
  rotate_left
  · intro w'
    go_simp
    with_reducible rfl
  rotate_left
  · simp only [Act.put, List.setIfInBounds_toArray, List.set_cons_zero, List.set_cons_succ, i64_w, i32_w]
    rfl
  refine gpure_ (i := 20) (N := some 25) (V := (.pointer (some ⟨w.heap.size, 14, none⟩))) (B := q2) (bm 43 2097151) rfl rfl (any_of HT_.out (by as_aux_lemma => kernel_rfl)) (fun _ _ _ _ h => h) ?_ ?_
  · cases q2 with
    | false => exact ⟨undef, (fun h => by cases h), Or.inr ⟨by rfl, rfl⟩⟩
    | true =>
      refine ⟨_, fun _ => rfl, Or.inl ⟨by rfl, ?_⟩⟩
      intro w'
      go_simp
      first | done | rfl
  intro u25 hu25_
  refine norm_ (a' := ?_) ?_ ?_
  rotate_left
  · simp only [Act.put, List.setIfInBounds_toArray, List.set_cons_zero, List.set_cons_succ, i64_w, i32_w]
    rfl
  refine gtake_ (i := 21) (N := some 26) (V := (.slice Ax14 x.data.length cx14)) (B := q2) (bm 43 4194303) rfl rfl (take_ofW HT_.out HW_.out (by as_aux_lemma => kernel_rfl)) (fun _ _ _ _ h => h) hHeld ?_ ?_
  · cases q2 with
    | false => exact ⟨undef, (fun h => by cases h), Or.inr ⟨by rfl, rfl⟩⟩
    | true =>
      obtain rfl := hu25_ rfl
      refine ⟨_, fun _ => rfl, Or.inl ⟨by rfl, ?_⟩⟩
      rintro w' ⟨s0, s1, s2⟩
      have hk_ := (blk_cell s0 14).trans LX14.out
      go_simp
      first | done | rfl
  intro u26 hu26_
  refine norm_ (a' := ?_) ?_ ?_
  rotate_left
  · simp only [Act.put, List.setIfInBounds_toArray, List.set_cons_zero, List.set_cons_succ, i64_w, i32_w]
    rfl
  refine gtake_ (i := 22) (N := some 27) (V := (.string (strOfNums x.data))) (B := q2) (bm 43 8388607) rfl rfl (take_ofW HT_.out HW_.out (by as_aux_lemma => kernel_rfl)) (fun _ _ _ _ h => h) hHeld ?_ ?_
  · cases q2 with
    | false => exact ⟨undef, (fun h => by cases h), Or.inr ⟨by rfl, rfl⟩⟩
    | true =>
      obtain rfl := hu25_ rfl
      obtain rfl := hu26_ rfl
      refine ⟨_, fun _ => rfl, Or.inl ⟨by rfl, ?_⟩⟩
      rintro w' ⟨s0, s1, s2⟩
      have hcv_ := Kd.C_string (P := Try.prog) (A := Ax14) (c := cx14) Try.underlying22 Try.underlying5 Try.underlying9 (Kd.C_below RX14.out.1 s2.out)
      go_simp
      first | done | rfl
  intro u27 hu27_
  refine norm_ (a' := ?_) ?_ ?_
  rotate_left
  · simp only [Act.put, List.setIfInBounds_toArray, List.set_cons_zero, List.set_cons_succ, i64_w, i32_w]
    rfl
  refine gpure_ (i := 23) (N := some 28) (V := (.pointer (some ⟨w.heap.size + 1, 14, none⟩))) (B := q2) (bm 43 16777215) rfl rfl (any_of HT_.out (by as_aux_lemma => kernel_rfl)) (fun _ _ _ _ h => h) ?_ ?_
  · cases q2 with
    | false => exact ⟨undef, (fun h => by cases h), Or.inr ⟨by rfl, rfl⟩⟩
    | true =>
      refine ⟨_, fun _ => rfl, Or.inl ⟨by rfl, ?_⟩⟩
      intro w'
      go_simp
      first | done | rfl
  intro u28 hu28_
  refine norm_ (a' := ?_) ?_ ?_
  rotate_left
  · simp only [Act.put, List.setIfInBounds_toArray, List.set_cons_zero, List.set_cons_succ, i64_w, i32_w]
    rfl
  refine gtake_ (i := 24) (N := some 29) (V := (.slice Ay14 y.data.length cy14)) (B := q2) (bm 43 33554431) rfl rfl (take_ofW HT_.out HW_.out (by as_aux_lemma => kernel_rfl)) (fun _ _ _ _ h => h) hHeld ?_ ?_
  · cases q2 with
    | false => exact ⟨undef, (fun h => by cases h), Or.inr ⟨by rfl, rfl⟩⟩
    | true =>
      obtain rfl := hu28_ rfl
      refine ⟨_, fun _ => rfl, Or.inl ⟨by rfl, ?_⟩⟩
      rintro w' ⟨s0, s1, s2⟩
      have hk_ := (blk_cell s1 14).trans LY14.out
      go_simp
      first | done | rfl
  intro u29 hu29_
  refine norm_ (a' := ?_) ?_ ?_
  rotate_left
  · simp only [Act.put, List.setIfInBounds_toArray, List.set_cons_zero, List.set_cons_succ, i64_w, i32_w]
    rfl
  refine gtake_ (i := 25) (N := some 30) (V := (.string (strOfNums y.data))) (B := q2) (bm 43 67108863) rfl rfl (take_ofW HT_.out HW_.out (by as_aux_lemma => kernel_rfl)) (fun _ _ _ _ h => h) hHeld ?_ ?_
  · cases q2 with
    | false => exact ⟨undef, (fun h => by cases h), Or.inr ⟨by rfl, rfl⟩⟩
    | true =>
      obtain rfl := hu28_ rfl
      obtain rfl := hu29_ rfl
      refine ⟨_, fun _ => rfl, Or.inl ⟨by rfl, ?_⟩⟩
      rintro w' ⟨s0, s1, s2⟩
      have hcv_ := Kd.C_string (P := Try.prog) (A := Ay14) (c := cy14) Try.underlying22 Try.underlying5 Try.underlying9 (Kd.C_below RY14.out.1 s2.out)
      go_simp
      first | done | rfl
  intro u30 hu30_
  refine norm_ (a' := ?_) ?_ ?_
  rotate_left
  · simp only [Act.put, List.setIfInBounds_toArray, List.set_cons_zero, List.set_cons_succ, i64_w, i32_w]
    rfl
  refine gpure_ (i := 26) (N := some 31) (V := (.bool (x.data == y.data))) (B := q2) (bm 43 134217727) rfl rfl (any_of HT_.out (by as_aux_lemma => kernel_rfl)) (fun _ _ _ _ h => h) ?_ ?_
  · cases q2 with
    | false => exact ⟨undef, (fun h => by cases h), Or.inr ⟨by rfl, rfl⟩⟩
    | true =>
      obtain rfl := hu27_ rfl
      obtain rfl := hu30_ rfl
      refine ⟨_, fun _ => rfl, Or.inl ⟨by rfl, ?_⟩⟩
      intro w'
      rw [← DEQ.out]
      go_simp
      first | done | rfl
  intro u31 hu31_
  refine norm_ (a' := ?_) ?_ ?_
  rotate_left
  · simp only [Act.put, List.setIfInBounds_toArray, List.set_cons_zero, List.set_cons_succ, i64_w, i32_w]
    rfl
  obtain ⟨q3, eq3_⟩ : ∃ z, z = (q2 && (x.data == y.data)) := ⟨_, rfl⟩
  have Eq3 := Aside0.mk eq3_
  clear eq3_
  refine pure_ (i := 27) (N := some 32) (v := (.bool q3)) (a' := ?_) (bm 43 268435455) rfl rfl (any_of HT_.out (by as_aux_lemma => kernel_rfl)) (fun _ _ _ h => h) (Or.inl ⟨by rfl, ?_⟩) ?_ ?_
  · intro w'
    rw [Eq3.out]
    cases q2 with
    | false => go_simp; first | done | rfl
    | true =>
      obtain rfl := hu31_ rfl
      go_simp
      first | done | rfl
  rotate_left
  · simp only [Act.put, List.setIfInBounds_toArray, List.set_cons_zero, List.set_cons_succ, i64_w, i32_w]
    rfl
  clear hu25_
  clear hu26_
  clear hu27_
  clear hu28_
  clear hu29_
  clear hu30_
  clear hu31_
  refine pure_ (i := 28) (N := some 33) (v := ?_) (a' := ?_) (bm 43 536870911) rfl rfl (any_of HT_.out (by as_aux_lemma => kernel_rfl)) (fun _ _ _ h => h) (Or.inl ⟨by rfl, ?_⟩) ?_ ?_
  rotate_left
  · intro w'
    go_simp
    with_reducible rfl
  rotate_left
  · simp only [Act.put, List.setIfInBounds_toArray, List.set_cons_zero, List.set_cons_succ, i64_w, i32_w]
    rfl
  refine gpure_ (i := 29) (N := some 34) (V := (.pointer (some ⟨w.heap.size, 15, none⟩))) (B := q3) (bm 43 1073741823) rfl rfl (any_of HT_.out (by as_aux_lemma => kernel_rfl)) (fun _ _ _ _ h => h) ?_ ?_
  · cases q3 with
    | false => exact ⟨undef, (fun h => by cases h), Or.inr ⟨by rfl, rfl⟩⟩
    | true =>
      refine ⟨_, fun _ => rfl, Or.inl ⟨by rfl, ?_⟩⟩
      intro w'
      go_simp
      first | done | rfl
  intro u34 hu34_
  refine norm_ (a' := ?_) ?_ ?_
  rotate_left
  · simp only [Act.put, List.setIfInBounds_toArray, List.set_cons_zero, List.set_cons_succ, i64_w, i32_w]
    rfl
  refine gtake_ (i := 30) (N := some 35) (V := (.slice Ax15 x.recs.length cx15)) (B := q3) (bm 43 2147483647) rfl rfl (take_ofW HT_.out HW_.out (by as_aux_lemma => kernel_rfl)) (fun _ _ _ _ h => h) hHeld ?_ ?_
  · cases q3 with
    | false => exact ⟨undef, (fun h => by cases h), Or.inr ⟨by rfl, rfl⟩⟩
    | true =>
      obtain rfl := hu34_ rfl
      refine ⟨_, fun _ => rfl, Or.inl ⟨by rfl, ?_⟩⟩
      rintro w' ⟨s0, s1, s2⟩
      have hk_ := (blk_cell s0 15).trans LX15.out
      go_simp
      first | done | rfl
  intro u35 hu35_
  refine norm_ (a' := ?_) ?_ ?_
  rotate_left
  · simp only [Act.put, List.setIfInBounds_toArray, List.set_cons_zero, List.set_cons_succ, i64_w, i32_w]
    rfl
  refine gpure_ (i := 31) (N := some 36) (V := (.pointer (some ⟨w.heap.size + 1, 15, none⟩))) (B := q3) (bm 43 4294967295) rfl rfl (any_of HT_.out (by as_aux_lemma => kernel_rfl)) (fun _ _ _ _ h => h) ?_ ?_
  · cases q3 with
    | false => exact ⟨undef, (fun h => by cases h), Or.inr ⟨by rfl, rfl⟩⟩
    | true =>
      obtain rfl := hu34_ rfl
      obtain rfl := hu35_ rfl
      refine ⟨_, fun _ => rfl, Or.inl ⟨by rfl, ?_⟩⟩
      intro w'
      go_simp
      first | done | rfl
  intro u36 hu36_
  refine norm_ (a' := ?_) ?_ ?_
  rotate_left
  · simp only [Act.put, List.setIfInBounds_toArray, List.set_cons_zero, List.set_cons_succ, i64_w, i32_w]
    rfl
  refine gtake_ (i := 32) (N := some 37) (V := (.slice Ay15 y.recs.length cy15)) (B := q3) (bm 43 8589934591) rfl rfl (take_ofW HT_.out HW_.out (by as_aux_lemma => kernel_rfl)) (fun _ _ _ _ h => h) hHeld ?_ ?_
  · cases q3 with
    | false => exact ⟨undef, (fun h => by cases h), Or.inr ⟨by rfl, rfl⟩⟩
    | true =>
      obtain rfl := hu34_ rfl
      obtain rfl := hu35_ rfl
      obtain rfl := hu36_ rfl
      refine ⟨_, fun _ => rfl, Or.inl ⟨by rfl, ?_⟩⟩
      rintro w' ⟨s0, s1, s2⟩
      have hk_ := (blk_cell s1 15).trans LY15.out
      go_simp
      first | done | rfl
  intro u37 hu37_
  refine norm_ (a' := ?_) ?_ ?_
  rotate_left
  · simp only [Act.put, List.setIfInBounds_toArray, List.set_cons_zero, List.set_cons_succ, i64_w, i32_w]
    rfl
  refine gone_ (i := 33) (N := some 38) (V := (.bool (listB recB x.recs y.recs))) (B := q3) (bm 43 17179869183) rfl rfl (one_of HT_.out (by as_aux_lemma => kernel_rfl)) (by as_aux_lemma => decide) (fun K hK => ?_) ?_
  · cases q3 with
    | false => exact off_ (by rfl) (hK _ _ hHeld (fun h => by cases h))
    | true =>
      obtain rfl := hu34_ rfl
      obtain rfl := hu35_ rfl
      obtain rfl := hu36_ rfl
      obtain rfl := hu37_ rfl
      refine goes_ Try.func53 (by as_aux_lemma => kernel_rfl) rfl #[.slice Ax15 x.recs.length cx15, .slice Ay15 y.recs.length cy15, .func (.func 54) #[] #[]] (by rfl) rfl rfl (by simp only [List.map_toArray, List.map_cons, List.map_nil]; rfl) ?_
      with_reducible refine (recs_any Ax15 Ay15 cx15 cy15 x.recs y.recs _ (Kd.C_below RX15.out.1 hHeld.2.2.out) (Kd.C_below RY15.out.1 hHeld.2.2.out)).mono ?_
      rintro e wq ⟨rfl, hb⟩
      exact ⟨_, rfl, hK _ _ ⟨blk_below hHeld.1 hb, blk_below hHeld.2.1 hb, Aside0.mk (below_step hHeld.2.2.out hb)⟩ (fun _ => rfl)⟩
  clear hHeld
  intro u38 w33 hHeld hu38_
  refine norm_ (a' := ?_) ?_ ?_
  rotate_left
  · simp only [Act.put, List.setIfInBounds_toArray, List.set_cons_zero, List.set_cons_succ, i64_w, i32_w]
    rfl
  obtain ⟨q4, eq4_⟩ : ∃ z, z = (q3 && (listB recB x.recs y.recs)) := ⟨_, rfl⟩
  have Eq4 := Aside0.mk eq4_
  clear eq4_
  refine pure_ (i := 34) (N := some 39) (v := (.bool q4)) (a' := ?_) (bm 43 34359738367) rfl rfl (any_of HT_.out (by as_aux_lemma => kernel_rfl)) (fun _ _ _ h => h) (Or.inl ⟨by rfl, ?_⟩) ?_ ?_
  · intro w'
    rw [Eq4.out]
    cases q3 with
    | false => go_simp; first | done | rfl
    | true =>
      obtain rfl := hu38_ rfl
      go_simp
      first | done | rfl
  rotate_left
  · simp only [Act.put, List.setIfInBounds_toArray, List.set_cons_zero, List.set_cons_succ, i64_w, i32_w]
    rfl
  clear hu34_
  clear hu35_
  clear hu36_
  clear hu37_
  clear hu38_
  refine pure_ (i := 35) (N := some 40) (v := ?_) (a' := ?_) (bm 43 68719476735) rfl rfl (any_of HT_.out (by as_aux_lemma => kernel_rfl)) (fun _ _ _ h => h) (Or.inl ⟨by rfl, ?_⟩) ?_ ?_
  rotate_left
  · intro w'
    go_simp
    with_reducible rfl
  rotate_left
  · simp only [Act.put, List.setIfInBounds_toArray, List.set_cons_zero, List.set_cons_succ, i64_w, i32_w]
    rfl
  refine gpure_ (i := 36) (N := some 41) (V := (.pointer (some ⟨w.heap.size, 21, none⟩))) (B := q4) (bm 43 137438953471) rfl rfl (any_of HT_.out (by as_aux_lemma => kernel_rfl)) (fun _ _ _ _ h => h) ?_ ?_
  · cases q4 with
    | false => exact ⟨undef, (fun h => by cases h), Or.inr ⟨by rfl, rfl⟩⟩
    | true =>
      refine ⟨_, fun _ => rfl, Or.inl ⟨by rfl, ?_⟩⟩
      intro w'
      go_simp
      first | done | rfl
  intro u41 hu41_
  refine norm_ (a' := ?_) ?_ ?_
  rotate_left
  · simp only [Act.put, List.setIfInBounds_toArray, List.set_cons_zero, List.set_cons_succ, i64_w, i32_w]
    rfl
  refine gtake_ (i := 37) (N := some 42) (V := (.slice Ax21 x.objects.length cx21)) (B := q4) (bm 43 274877906943) rfl rfl (take_ofW HT_.out HW_.out (by as_aux_lemma => kernel_rfl)) (fun _ _ _ _ h => h) hHeld ?_ ?_
  · cases q4 with
    | false => exact ⟨undef, (fun h => by cases h), Or.inr ⟨by rfl, rfl⟩⟩
    | true =>
      obtain rfl := hu41_ rfl
      refine ⟨_, fun _ => rfl, Or.inl ⟨by rfl, ?_⟩⟩
      rintro w' ⟨s0, s1, s2⟩
      have hk_ := (blk_cell s0 21).trans LX21.out
      go_simp
      first | done | rfl
  intro u42 hu42_
  refine norm_ (a' := ?_) ?_ ?_
  rotate_left
  · simp only [Act.put, List.setIfInBounds_toArray, List.set_cons_zero, List.set_cons_succ, i64_w, i32_w]
    rfl
  refine gpure_ (i := 38) (N := some 43) (V := (.pointer (some ⟨w.heap.size + 1, 21, none⟩))) (B := q4) (bm 43 549755813887) rfl rfl (any_of HT_.out (by as_aux_lemma => kernel_rfl)) (fun _ _ _ _ h => h) ?_ ?_
  · cases q4 with
    | false => exact ⟨undef, (fun h => by cases h), Or.inr ⟨by rfl, rfl⟩⟩
    | true =>
      obtain rfl := hu41_ rfl
      obtain rfl := hu42_ rfl
      refine ⟨_, fun _ => rfl, Or.inl ⟨by rfl, ?_⟩⟩
      intro w'
      go_simp
      first | done | rfl
  intro u43 hu43_
  refine norm_ (a' := ?_) ?_ ?_
  rotate_left
  · simp only [Act.put, List.setIfInBounds_toArray, List.set_cons_zero, List.set_cons_succ, i64_w, i32_w]
    rfl
  refine gtake_ (i := 39) (N := some 44) (V := (.slice Ay21 y.objects.length cy21)) (B := q4) (bm 43 1099511627775) rfl rfl (take_ofW HT_.out HW_.out (by as_aux_lemma => kernel_rfl)) (fun _ _ _ _ h => h) hHeld ?_ ?_
  · cases q4 with
    | false => exact ⟨undef, (fun h => by cases h), Or.inr ⟨by rfl, rfl⟩⟩
    | true =>
      obtain rfl := hu41_ rfl
      obtain rfl := hu42_ rfl
      obtain rfl := hu43_ rfl
      refine ⟨_, fun _ => rfl, Or.inl ⟨by rfl, ?_⟩⟩
      rintro w' ⟨s0, s1, s2⟩
      have hk_ := (blk_cell s1 21).trans LY21.out
      go_simp
      first | done | rfl
  intro u44 hu44_
  refine norm_ (a' := ?_) ?_ ?_
  rotate_left
  · simp only [Act.put, List.setIfInBounds_toArray, List.set_cons_zero, List.set_cons_succ, i64_w, i32_w]
    rfl
  refine gone_ (i := 40) (N := some 45) (V := (.bool (listB objB x.objects y.objects))) (B := q4) (bm 43 2199023255551) rfl rfl (one_of HT_.out (by as_aux_lemma => kernel_rfl)) (by as_aux_lemma => decide) (fun K hK => ?_) ?_
  · cases q4 with
    | false => exact off_ (by rfl) (hK _ _ hHeld (fun h => by cases h))
    | true =>
      obtain rfl := hu41_ rfl
      obtain rfl := hu42_ rfl
      obtain rfl := hu43_ rfl
      obtain rfl := hu44_ rfl
      refine goes_ Try.func55 (by as_aux_lemma => kernel_rfl) rfl #[.slice Ax21 x.objects.length cx21, .slice Ay21 y.objects.length cy21, .func (.func 56) #[] #[]] (by rfl) rfl rfl (by simp only [List.map_toArray, List.map_cons, List.map_nil]; rfl) ?_
      with_reducible refine (objs_any Ax21 Ay21 cx21 cy21 x.objects y.objects _ (Kd.C_below RX21.out.1 hHeld.2.2.out) (Kd.C_below RY21.out.1 hHeld.2.2.out) OX.out OY.out).mono ?_
      rintro e wq ⟨rfl, hb⟩
      exact ⟨_, rfl, hK _ _ ⟨blk_below hHeld.1 hb, blk_below hHeld.2.1 hb, Aside0.mk (below_step hHeld.2.2.out hb)⟩ (fun _ => rfl)⟩
  clear hHeld
  intro u45 w40 hHeld hu45_
  refine norm_ (a' := ?_) ?_ ?_
  rotate_left
  · simp only [Act.put, List.setIfInBounds_toArray, List.set_cons_zero, List.set_cons_succ, i64_w, i32_w]
    rfl
  refine pure_ (i := 41) (N := some 46) (v := (.bool (q4 && (listB objB x.objects y.objects)))) (a' := ?_) (bm 43 4398046511103) rfl rfl (any_of HT_.out (by as_aux_lemma => kernel_rfl)) (fun _ _ _ h => h) (Or.inl ⟨by rfl, ?_⟩) ?_ ?_
  · intro w'
    cases q4 with
    | false => go_simp; first | done | rfl
    | true =>
      obtain rfl := hu45_ rfl
      go_simp
      first | done | rfl
  rotate_left
  · simp only [Act.put, List.setIfInBounds_toArray, List.set_cons_zero, List.set_cons_succ, i64_w, i32_w]
    rfl
  clear hu41_
  clear hu42_
  clear hu43_
  clear hu44_
  clear hu45_
  refine pure_ (i := 42) (N := some 4) (v := ?_) (a' := ?_) (bm 43 8796093022207) rfl rfl (any_of HT_.out (by as_aux_lemma => kernel_rfl)) (fun _ _ _ h => h) (Or.inl ⟨by rfl, ?_⟩) ?_ ?_
  rotate_left
  · intro w'
    go_simp
    with_reducible rfl
  rotate_left
  · simp only [Act.put, List.setIfInBounds_toArray, List.set_cons_zero, List.set_cons_succ, i64_w, i32_w]
    rfl
  refine done_ (done_of HT_.out (by as_aux_lemma => kernel_rfl)) ?_
  go_wp2
  go_ret
  refine ⟨?_, hHeld.2.2.out⟩
  first | (rw [Eq4.out, Eq3.out, Eq2.out, Eq1.out]; rfl) | (rw [Eq4.out, Eq3.out, Eq2.out, Eq1.out])
end Go.Proofs.Ytdjeekpgcjcffaa.Same
end
section
namespace Go.Proofs.Ytdjeekpgcjcffaa.Same
open Go.RowKit Go.Proofs.Ytdjeekpgcjcffaa.P Go.Proofs.Ytdjeekpgcjcffaa.E Go.Proofs.YtdjeekpgcjcffaaW.PrintWords Go.Proofs.YtdjeekpgcjcffaaW.PrintLast Go.Proofs.YtdjeekpgcjcffaaW.PrintMore
def Sta (F : World → Prop) : Prop := ∀ W W', Below W.heap.size W W' → F W → F W'
theorem sta_C {α : Type} (d : Kd α) (A : Option Addr) (n : Nat) (xs : List α) : Sta fun W => d.C W A n xs := fun _ _ hb h => Kd.C_below h hb
theorem sta_msg (cx : Array Value) (m : Msg) : Sta fun W => IsMsg W cx m := fun _ _ hb h => h.on hb
theorem sta_blk (g : Nat) (o : Obj) : Sta fun W => W.heap[g]? = some o := fun _ _ hb h => blk_below h hb
structure Hd (w0 : World) (F : World → Prop) (W : World) : Prop where
  b : Below w0.heap.size w0 W
  f : F W
  st : Sta F
theorem Hd.start (w : World) : Hd w (fun _ => True) w := ⟨Below.refl _ _, trivial, fun _ _ _ h => h⟩
theorem Hd.on {w0 W W' : World} {F : World → Prop} (h : Hd w0 F W) (hb : Below W.heap.size W W') : Hd w0 F W' := ⟨h.b.trans (hb.mono h.b.size), h.st _ _ hb h.f, h.st⟩
theorem Hd.add {w0 W : World} {F G : World → Prop} (h : Hd w0 F W) (sg : Sta G) (g : G W) : Hd w0 (fun W => F W ∧ G W) W := ⟨h.b, ⟨h.f, g⟩, fun _ _ hb hfg => ⟨h.st _ _ hb hfg.1, sg _ _ hb hfg.2⟩⟩
theorem Hd.dr {w0 W : World} {F : World → Prop} (h : Hd w0 F W) : Hd w0 F W.drew := h.on (below_drew (Below.refl _ _))
end Go.Proofs.Ytdjeekpgcjcffaa.Same
end
section
namespace Go.Proofs.Ytdjeekpgcjcffaa.P
open Go.RowKit Go.Proofs.YtdjeekpgcjcffaaW.PrintWords Go.Proofs.YtdjeekpgcjcffaaW.PrintLast Go.Proofs.YtdjeekpgcjcffaaW.PrintMore
attribute [local go_sem] max2_int min2_int max_two min_two max_three min_three max_four min_four   -- for this text's walks alone
end Go.Proofs.Ytdjeekpgcjcffaa.P
end
section
namespace Go.Proofs.Ytdjeekpgcjcffaa.P
open Go.RowKit Go.Proofs.YtdjeekpgcjcffaaW.PrintWords Go.Proofs.YtdjeekpgcjcffaaW.PrintLast Go.Proofs.YtdjeekpgcjcffaaW.PrintMore
attribute [local go_sem] max2_int min2_int max_two min_two max_three min_three max_four min_four   -- for this text's walks alone
end Go.Proofs.Ytdjeekpgcjcffaa.P
end
section
namespace Go.Proofs.Ytdjeekpgcjcffaa.P
open Go.RowKit Go.Proofs.YtdjeekpgcjcffaaW.PrintWords Go.Proofs.YtdjeekpgcjcffaaW.PrintLast Go.Proofs.YtdjeekpgcjcffaaW.PrintMore
attribute [local go_sem] max2_int min2_int max_two min_two max_three min_three max_four min_four   -- for this text's walks alone
def busbarref01_Same.f (l0 : List Int) (l1 : List Int) : Option (Bool) := some ((strOfNums l0).toList == (strOfNums l1).toList)
theorem busbarref01_Same.calls (A0 : Option Addr) (c0 : Nat) (l0 : List Int) (A1 : Option Addr) (c1 : Nat) (l1 : List Int) (r : Bool) (w : World) (hr0 : Kd.C (Kd.int .u8) w A0 l0.length l0) (hc0 : l0.length ≤ c0) (hr1 : Kd.C (Kd.int .u8) w A1 l1.length l1) (hc1 : l1.length ≤ c1) (h : busbarref01_Same.f l0 l1 = some r) :
    Calls Try.prog 18 #[.slice A0 l0.length c0, .slice A1 l1.length c1] w fun e w' => e = .returned (.bool r) ∧ Drawn0 w w' := by
  have HR0 := Aside0.mk hr0
  have HC0 := Aside0.mk hc0
  clear hr0 hc0
  have HR1 := Aside0.mk hr1
  have HC1 := Aside0.mk hc1
  clear hr1 hc1
  have H : (some ((strOfNums l0).toList == (strOfNums l1).toList)) = some r := h
  clear h
  obtain rfl := Option.some.inj H
  have hcv3 := Kd.C_string (P := Try.prog) (A := A0) (c := c0) Try.underlying22 Try.underlying5 Try.underlying9 HR0.out
  have hcv4 := Kd.C_string (P := Try.prog) (A := A1) (c := c1) Try.underlying22 Try.underlying5 Try.underlying9 HR1.out
  go_enter Try.func18, Try.ntmps18
  go_wp2
  go_ret
  exact ⟨by first | rfl | (simp; done) | (simp [*]; done), by repeat (first | exact Drawn0.refl _ | apply Drawn0.step)⟩
end Go.Proofs.Ytdjeekpgcjcffaa.P
end
section
namespace Go.Proofs.Ytdjeekpgcjcffaa.R01
open Go.RowKit Go.Proofs.Ytdjeekpgcjcffaa.P Go.Proofs.Ytdjeekpgcjcffaa.E Go.Proofs.YtdjeekpgcjcffaaW.PrintWords Go.Proofs.YtdjeekpgcjcffaaW.PrintLast Go.Proofs.YtdjeekpgcjcffaaW.PrintMore
theorem same_eq {l m : List Int} (hl : isBytes l) (hm : isBytes m) : busbarref01_Same.f l m = some (l == m) := by unfold busbarref01_Same.f; rw [str_beq hl hm]
theorem same_c {l m : List Int} (hl : isBytes l) (hm : isBytes m) {A B : Option Addr} {c d : Nat} {W : World} (rl : Kd.C (Kd.int .u8) W A l.length l) (zl : l.length ≤ c) (rm : Kd.C (Kd.int .u8) W B m.length m) (zm : m.length ≤ d) :
    Calls Try.prog 18 #[.slice A l.length c, .slice B m.length d] W fun e w' => e = .returned (.bool (l == m)) ∧ Below W.heap.size W w' := by
  refine (busbarref01_Same.calls A c l B d m _ W rl zl rm zm (same_eq hl hm)).mono ?_
  rintro e w' ⟨rfl, n, rfl⟩
  exact ⟨rfl, pw_below_drewN (Below.refl _ _) _⟩
end Go.Proofs.Ytdjeekpgcjcffaa.R01
end
section
namespace Go.Proofs.Ytdjeekpgcjcffaa.Same
open Go.RowKit Go.Proofs.Ytdjeekpgcjcffaa.P Go.Proofs.Ytdjeekpgcjcffaa.E Go.Proofs.YtdjeekpgcjcffaaW.PrintWords Go.Proofs.YtdjeekpgcjcffaaW.PrintLast Go.Proofs.YtdjeekpgcjcffaaW.PrintMore
structure SD (P : Program) (O : Array Oper) (Q : Exit → Act → World → Prop) (L : List Oper) (a : Act) (W : World) : Prop where
  out : wpList P O Q L a W
section
variable {P : Program} {L : List Oper} {O : Array Oper} {o oj : Oper} {a a' : Act} {Q : Exit → Act → World → Prop} {W : World} {v : Value} {N : Option Tmp}
end
section
variable {P : Program} {L : List Oper} {O : Array Oper} {Q : Exit → Act → World → Prop} {W : World} {a : Act} {o : Oper}
structure Seg (L : List Oper) (n g d : Nat) (o0 o1 o2 o3 o4 o5 og : Oper) : Prop where
  h0 : L[n]? = some o0
  h1 : L[n + 1]? = some o1
  h2 : L[n + 2]? = some o2
  h3 : L[n + 3]? = some o3
  h4 : L[n + 4]? = some o4
  h5 : L[n + 5]? = some o5
  hg : L[g]? = some og
  g0 : o0.guard = some (g, false)
  g1 : o1.guard = some (g, false)
  g2 : o2.guard = some (g, false)
  g3 : o3.guard = some (g, false)
  g4 : o4.guard = some (g, false)
  g5 : o5.guard = none
  d0 : o0.dst = some (d + 1)
  d1 : o1.dst = some (d + 2)
  d2 : o2.dst = some (d + 3)
  d3 : o3.dst = some (d + 4)
  d4 : o4.dst = some (d + 5)
  d5 : o5.dst = some (d + 6)
  dg : og.dst = some d
structure SegRuns (P : Program) (W : World) (d : Nat) (px py : Value) (r : Bool) (o0 o1 o2 o3 o4 o5 : Oper) : Prop where
  e : ∃ v0 v1 v2 v3 : Value, (∀ ev, ev (.tmp 2) = px → (execOp ev { o0 with guard := none }).run P W = .ok (.value v0) W) ∧ (∀ ev, ev (.tmp (d + 1)) = v0 → (execOp ev { o1 with guard := none }).run P W = .ok (.value v1) W) ∧
    (∀ ev, ev (.tmp 3) = py → (execOp ev { o2 with guard := none }).run P W = .ok (.value v2) W) ∧ (∀ ev, ev (.tmp (d + 3)) = v2 → (execOp ev { o3 with guard := none }).run P W = .ok (.value v3) W) ∧
    (∀ ev, ev (.tmp (d + 2)) = v1 → ev (.tmp (d + 4)) = v3 → (execOp ev { o4 with guard := none }).run P W = .ok (.value (.bool r)) W)
  p1 : ∀ ev, ev (.tmp d) = .bool true → ev (.const (.bool true)) = .bool true → (execOp ev o5).run P W = .ok (.value (.bool true)) W
  p2 : ∀ ev c, ev (.tmp d) = .bool false → ev (.tmp (d + 5)) = .bool c → (execOp ev o5).run P W = .ok (.value (.bool c)) W
end
end Go.Proofs.Ytdjeekpgcjcffaa.Same
end
section
namespace Go.Proofs.Ytdjeekpgcjcffaa.Same
open Go.RowKit Go.Proofs.Ytdjeekpgcjcffaa.P Go.Proofs.Ytdjeekpgcjcffaa.E Go.Proofs.YtdjeekpgcjcffaaW.PrintWords Go.Proofs.YtdjeekpgcjcffaaW.PrintLast Go.Proofs.YtdjeekpgcjcffaaW.PrintMore
end Go.Proofs.Ytdjeekpgcjcffaa.Same
end
section
namespace Go.Proofs.Ytdjeekpgcjcffaa.Same
open Go.RowKit Go.Proofs.Ytdjeekpgcjcffaa.P Go.Proofs.Ytdjeekpgcjcffaa.E Go.Proofs.YtdjeekpgcjcffaaW.PrintWords Go.Proofs.YtdjeekpgcjcffaaW.PrintLast Go.Proofs.YtdjeekpgcjcffaaW.PrintMore
end Go.Proofs.Ytdjeekpgcjcffaa.Same
end
section
namespace Go.Proofs.Ytdjeekpgcjcffaa.Same
open Go.RowKit Go.Proofs.Ytdjeekpgcjcffaa.P Go.Proofs.Ytdjeekpgcjcffaa.E Go.Proofs.YtdjeekpgcjcffaaW.PrintWords Go.Proofs.YtdjeekpgcjcffaaW.PrintLast Go.Proofs.YtdjeekpgcjcffaaW.PrintMore
theorem listB_refl {α : Type} {f : α → α → Bool} (h : ∀ x, f x x = true) : ∀ l : List α, listB f l l = true
  | [] => rfl
  | x :: xs => by simp only [listB, h x, listB_refl h xs, Bool.and_self]
theorem listB_eq {α : Type} {f : α → α → Bool} (h : ∀ x y, f x y = true → x = y) : ∀ l m : List α, listB f l m = true → l = m
  | [], [], _ => rfl
  | x :: xs, y :: ys, e => by
    simp only [listB, Bool.and_eq_true] at e
    rw [h x y e.1, listB_eq h xs ys e.2]
  | [], _ :: _, e => by cases e
  | _ :: _, [], e => by cases e
theorem rec_refl (x) : recB x x = true := by simp [recB]
theorem obj_refl (x) : objB x x = true := by simp [objB]
theorem rec_eq (x y) (h : recB x y = true) : x = y := by
  unfold recB at h
  simp only [Bool.and_eq_true, beq_iff_eq] at h
  obtain ⟨⟨⟨h0, h1⟩, h2⟩, h3⟩ := h
  cases x; cases y; simp_all
theorem obj_eq (x y) (h : objB x y = true) : x = y := by
  unfold objB at h
  simp only [Bool.and_eq_true, beq_iff_eq] at h
  cases x; cases y; simp_all
theorem same_refl (x : Msg) : sameB x x = true := by
  unfold sameB plainB
  simp only [beq_self_eq_true, Bool.true_and, listB_refl rec_refl, listB_refl obj_refl]
theorem same_eq (x y : Msg) : sameB x y = true ↔ x = y := by
  constructor
  · intro h
    unfold sameB plainB at h
    simp only [Bool.and_eq_true, beq_iff_eq] at h
    obtain ⟨⟨⟨⟨⟨⟨⟨⟨⟨⟨⟨⟨⟨⟨⟨⟨⟨⟨⟨⟨⟨h0, h1⟩, h2⟩, h3⟩, h4⟩, h5⟩, h6⟩, h7⟩, h8⟩, h9⟩, h10⟩, h11⟩, h12⟩, h13⟩, h14⟩, h15⟩, h16⟩, k0⟩, k1⟩, k2⟩, k3⟩, k4⟩ := h
    have e3 := listB_eq rec_eq _ _ k3
    have e4 := listB_eq obj_eq _ _ k4
    cases x; cases y; simp_all
  · rintro rfl
    exact same_refl x
end Go.Proofs.Ytdjeekpgcjcffaa.Same
end
section
namespace Go.Proofs.Ytdjeekpgcjcffaa.Same
open Go.RowKit Go.Proofs.Ytdjeekpgcjcffaa.P Go.Proofs.Ytdjeekpgcjcffaa.E Go.Proofs.YtdjeekpgcjcffaaW.PrintWords Go.Proofs.YtdjeekpgcjcffaaW.PrintLast Go.Proofs.YtdjeekpgcjcffaaW.PrintMore
def fewB (m : Msg) : Bool := decide (m.words.length ≤ 300 ∧ m.bits.length ≤ 2500 ∧ m.data.length ≤ 300 ∧ m.recs.length ≤ 50 ∧ m.objects.length ≤ 100) && ((m.recs.all fun o => decide (o.f3.length ≤ 200)) && (m.objects.all fun o => decide (o.f1.length ≤ 300)))
theorem few_no {cx : Array Value} {m : Msg} {w : World} (hm : IsMsg w cx m) (h : ¬ (m.words.length ≤ 300 ∧ m.bits.length ≤ 2500 ∧ m.data.length ≤ 300 ∧ m.recs.length ≤ 50 ∧ m.objects.length ≤ 100)) : Calls Try.prog 15 #[.agg cx] w fun e w' => e = .returned (.bool false) ∧ Below w.heap.size w w' := by
  obtain ⟨A12, c12, A13, c13, A14, c14, A15, c15, A21, c21, ⟨l12, l13, l14, l15, l21⟩, r12, r13, r14, r15, r21⟩ := hm.lists
  have hb := blk_new w (.cells cx 30 (0, 0))
  have k12 := (blk_cell hb 12).trans l12
  have k13 := (blk_cell hb 13).trans l13
  have k14 := (blk_cell hb 14).trans l14
  have k15 := (blk_cell hb 15).trans l15
  have k21 := (blk_cell hb 21).trans l21
  have R15 := Aside0.mk r15
  have R21 := Aside0.mk r21
  have HB := Aside0.mk hb
  have HW := Aside0.mk (below_alloc (Below.refl w.heap.size w) (.cells cx 30 (0, 0)))
  have hu1 := Try.underlying30
  clear l12 l13 l14 l15 l21 r12 r13 r14 r15 r21 hb
  have H := Aside0.mk h
  clear hm h
  go_enter Try.func15, Try.ntmps15
  go_upto_region 2 with (fail)
  all_goals first
    | (go_wp2; go_ret; exact ⟨rfl, HW.out⟩)
    | (exfalso; have := H.out; omega)
theorem drop_all {α : Type} (p : α → Bool) {l : List α} {i : Nat} (h : i < l.length) (d : α) : (l.drop i).all p = (p (l.getD i d) && (l.drop (i + 1)).all p) := by
  rw [drop_cons h d]
  rfl
theorem few_go {cx : Array Value} {m : Msg} {w : World} (hm : IsMsg w cx m) (h0 : m.words.length ≤ 300) (h1 : m.bits.length ≤ 2500) (h2 : m.data.length ≤ 300) (h3 : m.recs.length ≤ 50) (h4 : m.objects.length ≤ 100) : Calls Try.prog 15 #[.agg cx] w fun e w' => e = .returned (.bool ((m.recs.all fun o => decide (o.f3.length ≤ 200)) && (m.objects.all fun o => decide (o.f1.length ≤ 300)))) ∧ Below w.heap.size w w' := by
  obtain ⟨A12, c12, A13, c13, A14, c14, A15, c15, A21, c21, ⟨l12, l13, l14, l15, l21⟩, r12, r13, r14, r15, r21⟩ := hm.lists
  have hb := blk_new w (.cells cx 30 (0, 0))
  have k12 := (blk_cell hb 12).trans l12
  have k13 := (blk_cell hb 13).trans l13
  have k14 := (blk_cell hb 14).trans l14
  have k15 := (blk_cell hb 15).trans l15
  have k21 := (blk_cell hb 21).trans l21
  have R15 := Aside0.mk r15
  have R21 := Aside0.mk r21
  have HB := Aside0.mk hb
  have HW := Aside0.mk (below_alloc (Below.refl w.heap.size w) (.cells cx 30 (0, 0)))
  have hu1 := Try.underlying30
  clear l12 l13 l14 l15 l21 r12 r13 r14 r15 r21 hb
  have e0 : decide ((m.words.length : Int) > 300) = false := decide_eq_false (by omega)
  have e0_ : decide ((300 : Int) < (m.words.length : Int)) = false := decide_eq_false (by omega)
  have e1 : decide ((m.bits.length : Int) > 2500) = false := decide_eq_false (by omega)
  have e1_ : decide ((2500 : Int) < (m.bits.length : Int)) = false := decide_eq_false (by omega)
  have e2 : decide ((m.data.length : Int) > 300) = false := decide_eq_false (by omega)
  have e2_ : decide ((300 : Int) < (m.data.length : Int)) = false := decide_eq_false (by omega)
  have e3 : decide ((m.recs.length : Int) > 50) = false := decide_eq_false (by omega)
  have e3_ : decide ((50 : Int) < (m.recs.length : Int)) = false := decide_eq_false (by omega)
  have e4 : decide ((m.objects.length : Int) > 100) = false := decide_eq_false (by omega)
  have e4_ : decide ((100 : Int) < (m.objects.length : Int)) = false := decide_eq_false (by omega)
  have HR := Aside0.mk h3
  have HO := Aside0.mk h4
  have b3 : (m.recs.length : Int) ≤ 50 := by omega
  have b4 : (m.objects.length : Int) ≤ 100 := by omega
  clear hm h0 h1 h2 h3 h4
  generalize hP : (m.recs.all fun o => decide (o.f3.length ≤ 200)) = P
  generalize hO : (m.objects.all fun o => decide (o.f1.length ≤ 300)) = O
  have HP := Aside0.mk hP
  have HOO := Aside0.mk hO
  clear hP hO
  go_enter Try.func15, Try.ntmps15
  go_wp2
  go_loopw [3] (fun i wr => ∃ k : Nat, k ≤ m.recs.length ∧ i = .int .i64 k ∧ Aside0 (P = (m.recs.drop k).all fun o => decide (o.f3.length ≤ 200)) ∧ wr = w.alloc (.cells cx 30 (0, 0))) (fun i _ => m.recs.length - (intOf i).toNat)
  case atStart => exact ⟨0, Nat.zero_le _, rfl, ⟨HP.out.symm⟩, rfl⟩
  case round =>
    obtain ⟨k, hk, rfl, HL, rfl⟩ := hrel
    by_cases hlt : k < m.recs.length
    · obtain ⟨ad, A3, cA3, rfl, x0, x1, x2, x3, gA, qA⟩ := at_T43 R15.out.1 (k : Int) (by omega) (by omega)
      rw [Int.toNat_natCast] at x3
      have y3 := (HW.out.cell (World.block_lt_of_cell? w _ x3)).trans x3
      have e1 := drop_all (fun o : S43 => decide (o.f3.length ≤ 200)) hlt z43
      rw [← HL.out] at e1
      have e2 : rd_T43 m.recs (k : Int) = m.recs.getD k z43 := by unfold rd_T43; rw [Int.toNat_natCast]
      rw [e2] at y3 qA gA
      generalize (m.recs.getD k z43).f3 = f3 at *
      have qL : f3.length ≤ 9223372036854775807 := qA.2.1
      clear x0 x1 x2 x3 e2 qA gA
      by_cases hf : f3.length ≤ 200
      · have d1 : decide ((f3.length : Int) > 200) = false := decide_eq_false (by omega)
        have d2 : decide ((200 : Int) < (f3.length : Int)) = false := decide_eq_false (by omega)
        rw [decide_eq_true hf, Bool.true_and] at e1
        have E1 := Aside0.mk e1
        clear e1 hf
        go_wp2
        go_roundw
        case rel => exact ⟨k + 1, by omega, by go_num, E1, by first | rfl | trivial⟩
        case measure => simp [intOf]; omega
      · have d1 : decide ((f3.length : Int) > 200) = true := decide_eq_true (by omega)
        have d2 : decide ((200 : Int) < (f3.length : Int)) = true := decide_eq_true (by omega)
        rw [decide_eq_false hf, Bool.false_and] at e1
        have E1 := Aside0.mk e1
        clear e1 hf
        go_wp2
        go_ret
        exact ⟨congrArg (fun b => Ending.returned (.bool b)) (show false = (P && O) by rw [E1.out]; rfl), HW.out⟩
    · have ek : P = true := by rw [HL.out, List.drop_eq_nil_of_le (by omega)]; rfl
      have EK := Aside0.mk ek
      clear ek
      go_wp2
      go_loopw [4] (fun i wr => ∃ k : Nat, k ≤ m.objects.length ∧ i = .int .i64 k ∧ Aside0 (O = (m.objects.drop k).all fun o => decide (o.f1.length ≤ 300)) ∧ wr = w.alloc (.cells cx 30 (0, 0))) (fun i _ => m.objects.length - (intOf i).toNat)
      case atStart => exact ⟨0, Nat.zero_le _, rfl, ⟨HOO.out.symm⟩, rfl⟩
      case round =>
        obtain ⟨j, hj, rfl, HL2, rfl⟩ := hrel
        by_cases hlt2 : j < m.objects.length
        · obtain ⟨ad, A1, cA1, rfl, x0, x1, gA, qA⟩ := at_T69 R21.out.1 (j : Int) (by omega) (by omega)
          rw [Int.toNat_natCast] at x1
          have y1 := (HW.out.cell (World.block_lt_of_cell? w _ x1)).trans x1
          have e1 := drop_all (fun o : S69 => decide (o.f1.length ≤ 300)) hlt2 z69
          rw [← HL2.out] at e1
          have e2 : rd_T69 m.objects (j : Int) = m.objects.getD j z69 := by unfold rd_T69; rw [Int.toNat_natCast]
          rw [e2] at y1 qA gA
          generalize (m.objects.getD j z69).f1 = f1 at *
          have qL : f1.length ≤ 9223372036854775807 := qA.2.1
          clear x0 x1 e2 qA gA
          by_cases hf : f1.length ≤ 300
          · have d1 : decide ((f1.length : Int) > 300) = false := decide_eq_false (by omega)
            have d2 : decide ((300 : Int) < (f1.length : Int)) = false := decide_eq_false (by omega)
            rw [decide_eq_true hf, Bool.true_and] at e1
            have E1 := Aside0.mk e1
            clear e1 hf
            go_wp2
            go_roundw
            case rel => exact ⟨j + 1, by omega, by go_num, E1, by first | rfl | trivial⟩
            case measure => simp [intOf]; omega
          · have d1 : decide ((f1.length : Int) > 300) = true := decide_eq_true (by omega)
            have d2 : decide ((300 : Int) < (f1.length : Int)) = true := decide_eq_true (by omega)
            rw [decide_eq_false hf, Bool.false_and] at e1
            have E1 := Aside0.mk e1
            clear e1 hf
            go_wp2
            go_ret
            exact ⟨congrArg (fun b => Ending.returned (.bool b)) (show false = (P && O) by rw [E1.out, Bool.and_false]), HW.out⟩
        · have eo : O = true := by rw [HL2.out, List.drop_eq_nil_of_le (by omega)]; rfl
          have EO := Aside0.mk eo
          clear eo
          go_wp2
          go_ret
          exact ⟨congrArg (fun b => Ending.returned (.bool b)) (show true = (P && O) by rw [EK.out, EO.out]; rfl), HW.out⟩
theorem few_msg {cx : Array Value} {x : Msg} {w : World} (hx : IsMsg w cx x) : Calls Try.prog 15 #[.agg cx] w fun e w' => e = .returned (.bool (fewB x)) ∧ Below w.heap.size w w' := by
  unfold fewB
  by_cases h : x.words.length ≤ 300 ∧ x.bits.length ≤ 2500 ∧ x.data.length ≤ 300 ∧ x.recs.length ≤ 50 ∧ x.objects.length ≤ 100
  · rw [decide_eq_true h, Bool.true_and]
    exact few_go hx h.1 h.2.1 h.2.2.1 h.2.2.2.1 h.2.2.2.2
  · rw [decide_eq_false h, Bool.false_and]
    exact few_no hx h
end Go.Proofs.Ytdjeekpgcjcffaa.Same
end
section
namespace Go.Proofs.Ytdjeekpgcjcffaa.Same
open Go.RowKit Go.Proofs.Ytdjeekpgcjcffaa.P Go.Proofs.Ytdjeekpgcjcffaa.E Go.Proofs.YtdjeekpgcjcffaaW.PrintWords Go.Proofs.YtdjeekpgcjcffaaW.PrintLast Go.Proofs.YtdjeekpgcjcffaaW.PrintMore
structure Two (w : World) (cx cy : Array Value) (t : TypeId) (W : World) : Prop where
  x : W.heap[w.heap.size]? = some (.cells cx t (0, 0))
  y : W.heap[w.heap.size + 1]? = some (.cells cy t (0, 0))
  b : Below w.heap.size w W
end Go.Proofs.Ytdjeekpgcjcffaa.Same
end
section
namespace Go.Proofs.Ytdjeekpgcjcffaa.Same
open Go.RowKit Go.Proofs.Ytdjeekpgcjcffaa.P Go.Proofs.Ytdjeekpgcjcffaa.E Go.Proofs.YtdjeekpgcjcffaaW.PrintWords Go.Proofs.YtdjeekpgcjcffaaW.PrintLast Go.Proofs.YtdjeekpgcjcffaaW.PrintMore
structure Up1 (g : Nat) (w w' : World) : Prop where
  os : w'.os = w.os
  tape : w'.tape = w.tape
  output : w'.output = w.output
  kept : Kept w w' (fun k => k = g)
theorem Up1.below {g B : Nat} {w w' : World} (h : Up1 g w w') (hB : B ≤ g) (hs : B ≤ w.heap.size) : Below B w w' := ⟨h.os, h.tape, h.output, h.kept.1, fun k hk => h.kept.2 k (by omega) (by omega)⟩
theorem setCells_blk {w : World} {g : Nat} {cur cx : Array Value} {t : TypeId} (hb : w.heap[g]? = some (.cells cur t (0, 0))) (hs : cur.size = cx.size) : (w.setCells g 0 cx.toList).heap[g]? = some (.cells cx t (0, 0)) ∧ Up1 g w (w.setCells g 0 cx.toList) := by
  obtain ⟨cur', h1, h2, h3⟩ := setCells_row cx.toList 0 w cur hb (by simp [hs])
  have e : cur' = cx := by
    apply Array.ext'
    rw [h3]
    simp [hs]
  rw [e] at h1
  obtain ⟨a1, a2, a3, a4⟩ := setCells_same g cx.toList 0 w
  exact ⟨h1, a1, a2, a3, by rw [a4]; exact Nat.le_refl _, fun k hk hn => setCells_far cx.toList 0 k hn⟩
theorem run_store_row {P : Program} {w : World} {g : Nat} {cur cx : Array Value} {t ty : TypeId} (hb : w.heap[g]? = some (.cells cur t (0, 0))) (hs : cur.size = cx.size) (hi : (P.info? ty).map (·.size) = some cx.size) (h1 : cx.all (·.oneCell') = true) :
    (Instr.storeAt ty (.pointer (some ⟨g, 0, none⟩)) (.agg cx)).run P w = .ok () (w.setCells g 0 cx.toList) := by
  refine run_storeAt_mid w g 0 ty cx (fun j hj => ?_) hi h1
  rw [Nat.zero_add]
  have := blk_cell hb j
  have hj' : j < cur.size := by omega
  exact ⟨by rw [this]; simp [hj'], blk_frozen hb j⟩
theorem wpList_store_row {P : Program} {ops : Array Oper} {rest : List Oper} {op : Oper} {a : Act} {w : World} {Q : Exit → Act → World → Prop} (ty : TypeId) (x y : Operand) {g : Nat} {cur cx : Array Value} {t : TypeId}
    (ho : op.op = .store ty x y) (hgd : op.guard = none) (hx : a.eval x = .pointer (some ⟨g, 0, none⟩)) (hy : a.eval y = .agg cx) (hb : w.heap[g]? = some (.cells cur t (0, 0))) (hs : cur.size = cx.size) (hi : (P.info? ty).map (·.size) = some cx.size) (h1 : cx.all (·.oneCell') = true)
    (h : ∀ w', w'.heap[g]? = some (.cells cx t (0, 0)) → Up1 g w w' → wpList P ops Q rest (a.put op.dst undef) w') : wpList P ops Q (op :: rest) a w := by
  refine wpList_plain hgd fun _ hK => ?_
  unfold Oper.wp execOp
  have hr := run_store_row (P := P) (ty := ty) hb hs hi h1
  simp only [ho, hx, hy, hr, Sem.run_bind, Sem.run_pure, Result.andThen_ok]
  obtain ⟨b1, b2⟩ := setCells_blk hb hs
  exact hK _ _ (h _ b1 b2)
theorem gate_op {P : Program} {ops : Array Oper} {rest : List Oper} {op : Oper} {a : Act} {w : World} {Q : Exit → Act → World → Prop} {u : Op} (_ : op.op = u) (h : wpList P ops Q (op :: rest) a w) : wpList P ops Q (op :: rest) a w := h
def zeroM : Msg := ⟨0, 0, 0, 0, 0, 0, 0, 0, 0, 0, 0, 0, [], [], [], [], 0, 0, 0, 0, 0, []⟩
def zeroC : Array Value := #[.int .u8 0, .int .u8 0, .int .u16 0, .int .u16 0, .int .u16 0, .int .u16 0, .int .u16 0, .int .u16 0, .int .u16 0, .int .u16 0, .int .u16 0, .int .u16 0, .slice none 0 0, .slice none 0 0, .slice none 0 0, .slice none 0 0, .int .u8 0, .int .u8 0, .int .u8 0, .int .u8 0, .int .u8 0, .slice none 0 0]
theorem zero_good : goodM zeroM := by
  refine ⟨by decide, ?_, ?_, ?_⟩
  · intro x h; cases h
  · intro x h; cases h
  · intro x h; cases h
theorem nil_row {α : Type} (d : Kd α) (w : World) : Kd.C d w none ([] : List α).length [] ∧ ([] : List α).length ≤ 0 := ⟨Kd.C_nil d w, Nat.le_refl _⟩
theorem zero_is (w : World) : IsMsg w zeroC zeroM := by
  refine ⟨none, 0, none, 0, none, 0, none, 0, none, 0, ?_, zero_good, ?_⟩
  · rfl
  · exact ⟨nil_row _ w, nil_row _ w, nil_row _ w, nil_row _ w, nil_row _ w⟩
theorem run_alloc_msg (ev : Operand → Value) (o : Oper) (ho : o.op = .alloc 30) (W : World) : (execOp ev o).run Try.prog W = .ok (.value (.pointer (some ⟨W.heap.size, 0, none⟩))) (W.alloc (.cells zeroC 30 (0, 0))) := by
  unfold execOp
  rw [ho]
  kernel_rfl
theorem ev_alloc {ops : Array Oper} {rest : List Oper} {o : Oper} {a : Act} {w : World} {Q : Exit → Act → World → Prop} (ho : o.op = .alloc 30) (hgd : o.guard = none)
    (h : ∀ g w1, g = w.heap.size → w1.heap[g]? = some (.cells zeroC 30 (0, 0)) → Below w.heap.size w w1 → wpList Try.prog ops Q rest (a.put o.dst (.pointer (some ⟨g, 0, none⟩))) w1) : wpList Try.prog ops Q (o :: rest) a w :=
  Kd.event_run hgd (run_alloc_msg a.eval o ho w) (h _ _ rfl (blk_new w _) (below_alloc (Below.refl _ _) _))
theorem ev_build {P : Program} {ops : Array Oper} {rest : List Oper} {o : Oper} {a : Act} {w : World} {Q : Exit → Act → World → Prop} (cs : Array Value) (hgd : o.guard = none) (hrun : (execOp a.eval o).run P w = .ok (.value (.agg cs)) w)
    (h : ∀ cx, cx = cs → wpList P ops Q rest (a.put o.dst (.agg cx)) w) : wpList P ops Q (o :: rest) a w := Kd.event_run hgd hrun (h _ rfl)
theorem C_block (q : IntKind) (xs : List Int) {w : World} {g : Nat} {t : TypeId} (hb : w.heap[g]? = some (.cells (xs.map (Value.int q)).toArray t (0, 0))) (hl : xs.length ≤ 1000000) : Kd.C (Kd.int q) w (some ⟨g, 0, none⟩) xs.length xs := by
  refine Kd.C_of_reads (d := 0) ⟨rfl, by omega, fun _ => ⟨_, rfl, fun j hj => ?_⟩⟩
  have e : (⟨g, 0, none⟩ : Addr).add j = ⟨g, j, none⟩ := by unfold Addr.add; split <;> simp_all
  rw [e, blk_cell hb j]
  simp [hj]
theorem ev_lit {P : Program} {ops : Array Oper} {rest : List Oper} {o : Oper} {a : Act} {w : World} {Q : Exit → Act → World → Prop} (q : IntKind) (xs : List Int) (t : TypeId) (hgd : o.guard = none)
    (hrun : (execOp a.eval o).run P w = .ok (.value (.slice (some ⟨w.heap.size, 0, none⟩) xs.length xs.length)) (w.alloc (.cells (xs.map (Value.int q)).toArray t (0, 0)))) (hl : xs.length ≤ 1000000)
    (h : ∀ A c w1 bs, bs = xs → Kd.C (Kd.int q) w1 A bs.length bs → bs.length ≤ c → Below w.heap.size w w1 → wpList P ops Q rest (a.put o.dst (.slice A bs.length c)) w1) : wpList P ops Q (o :: rest) a w :=
  Kd.event_run hgd hrun (h _ _ _ xs rfl (C_block q xs (blk_new w _) hl) (Nat.le_refl _) (below_alloc (Below.refl _ _) _))
structure Held (w0 : World) (L : List (Nat × Array Value)) (W : World) : Prop where
  b : Below w0.heap.size w0 W
  h : ∀ p ∈ L, w0.heap.size ≤ p.1 ∧ W.heap[p.1]? = some (.cells p.2 30 (0, 0))
  d : L.Pairwise (fun p q => p.1 ≠ q.1)
theorem ev_var {ops : Array Oper} {rest : List Oper} {o1 o2 : Oper} {a : Act} {w W0 : World} {Q : Exit → Act → World → Prop} {x y : Operand} {cx : Array Value} {m : Msg}
    (ho1 : o1.op = .alloc 30) (hg1 : o1.guard = none) (ho2 : o2.op = .store 30 x y) (hg2 : o2.guard = none) (hd2 : o2.dst = none) (M : IsMsg W0 cx m)
    (hx : (a.put o1.dst (.pointer (some ⟨w.heap.size, 0, none⟩))).eval x = .pointer (some ⟨w.heap.size, 0, none⟩)) (hy : (a.put o1.dst (.pointer (some ⟨w.heap.size, 0, none⟩))).eval y = .agg cx)
    (h : ∀ g w', g = w.heap.size → w'.heap[g]? = some (.cells cx 30 (0, 0)) → Below w.heap.size w w' → wpList Try.prog ops Q rest (a.put o1.dst (.pointer (some ⟨g, 0, none⟩))) w') : wpList Try.prog ops Q (o1 :: o2 :: rest) a w := by
  refine Kd.event_run hg1 (run_alloc_msg a.eval o1 ho1 w) ?_
  refine wpList_store_row 30 x y ho2 hg2 hx hy (blk_new w _) (M.size.symm ▸ rfl) (msg_info M.size) M.one (fun w' h1 h2 => ?_)
  rw [hd2]
  exact h _ w' rfl h1 ((below_alloc (Below.refl _ _) _).trans ((h2.below (Nat.le_refl _) (by simp)).mono (by simp)))
theorem ev_get {ops : Array Oper} {rest : List Oper} {op : Oper} {a : Act} {w : World} {Q : Exit → Act → World → Prop} {x : Operand} {g : Nat} {cx : Array Value} {m : Msg} {W0 : World}
    (ho : op.op = .load 30 x) (hgd : op.guard = none) (hx : a.eval x = .pointer (some ⟨g, 0, none⟩)) (hb : w.heap[g]? = some (.cells cx 30 (0, 0))) (M : IsMsg W0 cx m)
    (h : wpList Try.prog ops Q rest (a.put op.dst (.agg cx)) w) : wpList Try.prog ops Q (op :: rest) a w :=
  wpList_load_row hgd 30 x ho g hx 30 cx (0, 0) _ hb Try.underlying30 rfl (msg_info M.size) h
end Go.Proofs.Ytdjeekpgcjcffaa.Same
end
section
namespace Go.Proofs.Ytdjeekpgcjcffaa.Same
open Go.RowKit Go.Proofs.Ytdjeekpgcjcffaa.P Go.Proofs.Ytdjeekpgcjcffaa.E Go.Proofs.YtdjeekpgcjcffaaW.PrintWords Go.Proofs.YtdjeekpgcjcffaaW.PrintLast Go.Proofs.YtdjeekpgcjcffaaW.PrintMore
theorem good_code {m : Msg} (h : goodM m) {v : Int} (hv : 0 ≤ v ∧ v < 256) : goodM { m with code := v } := by
  obtain ⟨h1, h2⟩ := h
  refine ⟨?_, h2⟩
  simp only [okM, u8B, u16B, Bool.and_eq_true, decide_eq_true_eq] at h1 ⊢
  simp only [h1, hv, and_self, true_and]
theorem set_code {W : World} {cx : Array Value} {m : Msg} (h : IsMsg W cx m) {v : Int} (hv : 0 ≤ v ∧ v < 256) : IsMsg W (cx.setIfInBounds 0 (.int .u8 v)) { m with code := v } := by
  obtain ⟨A12, c12, A13, c13, A14, c14, A15, c15, A21, c21, rfl, ok, h12, h13, h14, h15, h21⟩ := h
  exact ⟨A12, c12, A13, c13, A14, c14, A15, c15, A21, c21, by simp, good_code ok hv, h12, h13, h14, h15, h21⟩
def NilL (cx : Array Value) : Prop := ∀ (i : Nat) A n, (i = 15 ∨ i = 21) → cx[i]? = some (.slice A 0 n) → A = none ∧ n = 0
def Zip {α β : Type} (R : α → β → Prop) (l : List α) (k : List β) : Prop := l.length = k.length ∧ ∀ (j : Nat) a b, l[j]? = some a → k[j]? = some b → R a b
theorem Zip.nil {α β : Type} (R : α → β → Prop) : Zip R [] [] := ⟨rfl, fun j a b h => by simp at h⟩
theorem Zip.imp {α β : Type} {R R' : α → β → Prop} {l : List α} {k : List β} (h : Zip R l k) (hi : ∀ a b, R a b → R' a b) : Zip R' l k := ⟨h.1, fun j a b ha hb => hi a b (h.2 j a b ha hb)⟩
theorem Zip.get {α β : Type} {R : α → β → Prop} {l : List α} {k : List β} (h : Zip R l k) {j : Nat} (hj : j < l.length) (hj' : j < k.length) : R l[j] k[j] := h.2 j _ _ (List.getElem?_eq_getElem hj) (List.getElem?_eq_getElem hj')
theorem Zip.mem {α β : Type} {R : α → β → Prop} {l : List α} {k : List β} (h : Zip R l k) : ∀ b ∈ k, ∃ a, R a b := fun b hb => by
  obtain ⟨j, hj, rfl⟩ := List.mem_iff_getElem.1 hb
  have hl := h.1
  exact ⟨_, h.get (show j < l.length by omega) hj⟩
theorem Zip.snoc {α β : Type} {R : α → β → Prop} {l : List α} {k : List β} (h : Zip R l k) {a : α} {b : β} (hab : R a b) : Zip R (l ++ [a]) (k ++ [b]) := by
  refine ⟨by simp [h.1], fun j x y hx hy => ?_⟩
  have hl := h.1
  by_cases hj : j < l.length
  · rw [List.getElem?_append_left hj] at hx
    rw [List.getElem?_append_left (by omega)] at hy
    exact h.2 j x y hx hy
  · rw [List.getElem?_append_right (by omega)] at hx
    rw [List.getElem?_append_right (by omega)] at hy
    have e : j - l.length = 0 := by
      by_cases h0 : j - l.length = 0
      · exact h0
      · rw [List.getElem?_eq_none (by simp; omega)] at hx; cases hx
    have e2 : j - k.length = 0 := by omega
    rw [e] at hx
    rw [e2] at hy
    simp at hx hy
    subst hx
    subst hy
    exact hab
end Go.Proofs.Ytdjeekpgcjcffaa.Same
end
section
namespace Go.Proofs.Ytdjeekpgcjcffaa.PS
open Go.RowKit Go.Proofs.Ytdjeekpgcjcffaa.P Go.Proofs.Ytdjeekpgcjcffaa.E Go.Proofs.Ytdjeekpgcjcffaa.Cur Go.Proofs.Ytdjeekpgcjcffaa.RCur Go.Proofs.Ytdjeekpgcjcffaa.Cu Go.Proofs.Ytdjeekpgcjcffaa.Same Go.Proofs.YtdjeekpgcjcffaaW.PrintWords Go.Proofs.YtdjeekpgcjcffaaW.PrintLast Go.Proofs.YtdjeekpgcjcffaaW.PrintMore
structure St (w0 : World) (gr g gm : Nat) (w : World) (c : Cu) (m : Msg) : Prop where
  b : Below w0.heap.size w0 w
  cur : ∃ lo hi, PAt lo hi w g c ∧ (gm < lo ∨ hi ≤ gm) ∧ (gr < lo ∨ hi ≤ gr)
  cx : ∃ cx, w.heap[gm]? = some (.cells cx 30 (0, 0)) ∧ ∀ W', Kept w W' (fun k => k = g ∨ k = gm ∨ k = gr) → IsMsg W' cx m
  res : w.heap[gr]? = some (.cells zeroC 30 (0, 0))
  h1 : w0.heap.size ≤ g ∧ w0.heap.size ≤ gm ∧ w0.heap.size ≤ gr
  h2 : gm ≠ g ∧ gr ≠ g ∧ gr ≠ gm
  nl : ∃ cx, w.heap[gm]? = some (.cells cx 30 (0, 0)) ∧ NilL cx
section
variable {w0 w w' : World} {gr g gm : Nat} {c c' : Cu} {m m' : Msg}
end
structure Nw (w0 : World) (gr g : Nat) (w : World) (c : Cu) : Prop where
  b : Below w0.heap.size w0 w
  cur : ∃ lo, PAt lo g w g c ∧ gr < lo
  res : w.heap[gr]? = some (.cells zeroC 30 (0, 0))
  h1 : w0.heap.size ≤ g ∧ w0.heap.size ≤ gr
end Go.Proofs.Ytdjeekpgcjcffaa.PS
end
section
namespace Go.Proofs.Ytdjeekpgcjcffaa.Same
open Go.RowKit Go.Proofs.Ytdjeekpgcjcffaa.P Go.Proofs.Ytdjeekpgcjcffaa.E Go.Proofs.Ytdjeekpgcjcffaa.Same Go.Proofs.YtdjeekpgcjcffaaW.PrintWords Go.Proofs.YtdjeekpgcjcffaaW.PrintLast Go.Proofs.YtdjeekpgcjcffaaW.PrintMore
structure RawR where
  f0 : Int
  f1 : Int
  f2 : Int
  A : Option Addr
  n : Nat
  c : Nat
def kRawR : Kd RawR where
  sz := 4
  E := []
  K := fun _ x cs => cs = [.int .u16 x.f0, .int .u16 x.f1, .int .u16 x.f2, .slice x.A x.n x.c]
  M := fun _ _ _ x cs => cs = [.int .u16 x.f0, .int .u16 x.f1, .int .u16 x.f2, .slice x.A x.n x.c]
  K_len := fun h => by rw [h]; rfl
  K_one := fun h u hu => by
    rw [h] at hu
    simp only [List.mem_cons, List.not_mem_nil, or_false] at hu
    rcases hu with rfl | rfl | rfl | rfl <;> rfl
  K_below := fun _ h => h
  K_of_M := fun h => h
  M_mono := fun _ h => h
  M_bound := fun h => h
  M_move := fun _ h => h
  M_lower := fun _ h => h
def FitsR (W : World) (r : RawR) (o : S43) : Prop := r.f0 = o.f0 ∧ r.f1 = o.f1 ∧ r.f2 = o.f2 ∧ r.n = o.f3.length ∧ o.f3.length ≤ r.c ∧ Kd.C (Kd.int .u16) W r.A o.f3.length o.f3
def goodR (o : S43) : Prop := goodRec o
theorem zipR_C {W : World} {A : Option Addr} {n : Nat} {raws : List RawR} {os : List S43} (h : Kd.C kRawR W A n raws) (z : Zip (FitsR W) raws os) : Kd.C k43 W A n os := by
  obtain ⟨h1, h2, h3⟩ := h
  have hl := z.1
  refine ⟨by rw [← hl]; exact h1, h2, fun hn => ?_⟩
  obtain ⟨ad, e, hc⟩ := h3 hn
  refine ⟨ad, e, fun j p hp => ?_⟩
  obtain ⟨hj, rfl⟩ := List.getElem?_eq_some_iff.1 hp
  have hj' : j < raws.length := by rw [hl]; exact hj
  obtain ⟨c, hc1, hc2, hc3⟩ := hc j raws[j] (List.getElem?_eq_getElem hj')
  have hf : FitsR W raws[j] os[j] := z.get hj' hj
  obtain ⟨e1f0, e1f1, e1f2, e2, e3, e4⟩ := hf
  refine ⟨c, hc1, ?_, hc3⟩
  rw [show c = [.int .u16 raws[j].f0, .int .u16 raws[j].f1, .int .u16 raws[j].f2, .slice raws[j].A raws[j].n raws[j].c] from hc2, e1f0, e1f1, e1f2, e2]
  exact k43_mk W _ e3 e4
theorem set_recs {W : World} {cx : Array Value} {m : Msg} (h : IsMsg W cx m) {A : Option Addr} {n : Nat} {l : List S43} (hn : l.length ≤ n) (hg : ∀ o ∈ l, goodR o) (hr : Kd.C k43 W A l.length l) : IsMsg W (cx.setIfInBounds 15 (.slice A l.length n)) { m with recs := l } := by
  obtain ⟨A12, c12, A13, c13, A14, c14, A15, c15, A21, c21, rfl, ok, h12, h13, h14, h15, h21⟩ := h
  refine ⟨A12, c12, A13, c13, A14, c14, A, n, A21, c21, by simp, ?_, h12, h13, h14, ⟨hr, hn⟩, h21⟩
  obtain ⟨ok1, ok2, ok3, ok4⟩ := ok
  exact ⟨ok1, ok2, fun o ho => hg o ho, ok4⟩
end Go.Proofs.Ytdjeekpgcjcffaa.Same
end
section
namespace Go.Proofs.Ytdjeekpgcjcffaa.Fil
open Go.RowKit Go.Proofs.Ytdjeekpgcjcffaa.P Go.Proofs.Ytdjeekpgcjcffaa.E Go.Proofs.Ytdjeekpgcjcffaa.Cur Go.Proofs.Ytdjeekpgcjcffaa.Cu Go.Proofs.Ytdjeekpgcjcffaa.Same Go.Proofs.YtdjeekpgcjcffaaW.PrintWords Go.Proofs.YtdjeekpgcjcffaaW.PrintLast Go.Proofs.YtdjeekpgcjcffaaW.PrintMore
def head (c : Cu) : Cu × Int × Int × Int :=
  let c2 := c.byteS.need (c.byteV == 6) 9
  let c4 := c2.wordS.need (c2.wordV != 0) 6
  let c6 := c4.wordS.need (decide (c4.wordV ≤ 9999)) 7
  (c6.wordS.need (c6.wordV != 0) 5, c2.wordV, c4.wordV, c6.wordV)
def asked (s : Int) (c : Cu) : Cu × S43 × Int :=
  let h := head c
  let s1 := s + (2 + 2 * h.2.2.2)
  (h.1.need (decide (s1 ≤ 245)) 5, ⟨h.2.1, h.2.2.1, h.2.2.2, []⟩, s1)
def told (c : Cu) : Cu × S43 :=
  let c2 := c.byteS.need (decide (c.byteV % 2 = 1) && decide (3 ≤ c.byteV) && decide (c.byteV ≤ (c.byteS.xs.length : Int))) 5
  let c4 := c2.byteS.need (c2.byteV == 6) 9
  (c4.wordsS (Int.tdiv (c.byteV - 1) 2), ⟨0, 0, 0, c4.wordsV (Int.tdiv (c.byteV - 1) 2)⟩)
def written (c : Cu) : Cu × S43 :=
  let h := head c
  let c1 := h.1.need (decide (2 * h.2.2.2 ≤ (h.1.xs.length : Int))) 5
  (c1.wordsS h.2.2.2, ⟨h.2.1, h.2.2.1, h.2.2.2, c1.wordsV h.2.2.2⟩)
abbrev recC (a b d : Int) (v : Value) : Array Value := #[.int .u16 a, .int .u16 b, .int .u16 d, v]
abbrev recZ : Array Value := recC 0 0 0 (.slice none 0 0)
theorem rec_info {cx : Array Value} (h : cx.size = 4) : (Try.prog.info? 43).map (·.size) = some cx.size := by rw [h]; kernel_rfl
theorem run_alloc_rec (ev : Operand → Value) (o : Oper) (ho : o.op = .alloc 43) (W : World) : (execOp ev o).run Try.prog W = .ok (.value (.pointer (some ⟨W.heap.size, 0, none⟩))) (W.alloc (.cells recZ 43 (0, 0))) := by
  unfold execOp
  rw [ho]
  kernel_rfl
theorem ev_rec {ops : Array Oper} {rest : List Oper} {o : Oper} {a : Act} {w : World} {Q : Exit → Act → World → Prop} (ho : o.op = .alloc 43) (hgd : o.guard = none)
    (h : ∀ g w1, g = w.heap.size → w1.heap[g]? = some (.cells recZ 43 (0, 0)) → Below w.heap.size w w1 → wpList Try.prog ops Q rest (a.put o.dst (.pointer (some ⟨g, 0, none⟩))) w1) : wpList Try.prog ops Q (o :: rest) a w :=
  Kd.event_run hgd (run_alloc_rec a.eval o ho w) (h _ _ rfl (blk_new w _) (below_alloc (Below.refl _ _) _))
structure HS (w0 : World) (g lo hi b2 b3 : Nat) (w : World) (c : Cu) (x2 x3 : Array Value) : Prop where
  cur : PAt lo hi w g c
  up : Upd g w0 w
  gl : g < w0.heap.size ∧ w0.heap.size ≤ b2 ∧ w0.heap.size ≤ b3
  h2 : w.heap[b2]? = some (.cells x2 43 (0, 0))
  h3 : w.heap[b3]? = some (.cells x3 43 (0, 0))
section
variable {w0 w w' : World} {g lo hi b2 b3 : Nat} {c c' : Cu} {x2 x3 : Array Value}
theorem HS.start (h : PAt lo hi w0 g c) {w1 : World} (hb : Below w0.heap.size w0 w1) {b : Nat} (e : b = w0.heap.size) (h1 : w1.heap[b]? = some (.cells x2 43 (0, 0))) : HS w0 g lo hi b b w1 c x2 x2 :=
  ⟨h.below hb, Upd.of_below hb, ⟨h.1.lt, by omega, by omega⟩, h1, h1⟩
theorem HS.new (h : HS w0 g lo hi b2 b2 w c x2 x2) {w1 : World} (hb : Below w.heap.size w w1) {b : Nat} (e : b = w.heap.size) (h1 : w1.heap[b]? = some (.cells x3 43 (0, 0))) : HS w0 g lo hi b2 b w1 c x2 x3 ∧ b2 ≠ b :=
  ⟨⟨h.cur.below hb, h.up.trans (Upd.of_below hb), ⟨h.gl.1, h.gl.2.1, by have := h.up.kept.1; omega⟩, blk_below h.h2 hb, h1⟩, by have := blk_lt h.h2; omega⟩
theorem HS.stp (h : HS w0 g lo hi b2 b3 w c x2 x3) (p : PAt lo hi w' g c') (u : Upd g w w') : HS w0 g lo hi b2 b3 w' c' x2 x3 :=
  ⟨p, h.up.trans u, h.gl, blk_kept h.h2 u.kept (by have := h.gl; omega), blk_kept h.h3 u.kept (by have := h.gl; omega)⟩
theorem HS.good (h : HS w0 g lo hi b2 b3 w c x2 x3) : c.good := h.cur.2
theorem HS.byte (h : HS w0 g lo hi b2 b3 w c x2 x3) : Calls Try.prog 21 #[.pointer (some ⟨g, 0, none⟩)] w fun en w' => en = .returned (.int .u8 c.byteV) ∧ HS w0 g lo hi b2 b3 w' c.byteS x2 x3 :=
  (p_byte h.cur).mono fun en w' ⟨e, p, u⟩ => ⟨e, h.stp p u⟩
theorem HS.word (h : HS w0 g lo hi b2 b3 w c x2 x3) : Calls Try.prog 58 #[.pointer (some ⟨g, 0, none⟩)] w fun en w' => en = .returned (.int .u16 c.wordV) ∧ HS w0 g lo hi b2 b3 w' c.wordS x2 x3 :=
  (p_word h.cur).mono fun en w' ⟨e, p, u⟩ => ⟨e, h.stp p u⟩
theorem HS.need (h : HS w0 g lo hi b2 b3 w c x2 x3) (ok : Bool) (f : Int) : Calls Try.prog 22 #[.pointer (some ⟨g, 0, none⟩), .bool ok, .int .i64 f] w fun en w' => en = .returned (.tuple #[]) ∧ HS w0 g lo hi b2 b3 w' (c.need ok f) x2 x3 :=
  (p_need h.cur ok f).mono fun en w' ⟨e, p, u⟩ => ⟨e, h.stp p u⟩
theorem HS.left (h : HS w0 g lo hi b2 b3 w c x2 x3) : Calls Try.prog 43 #[.pointer (some ⟨g, 0, none⟩)] w fun en w' => en = .returned (.int .i64 c.xs.length) ∧ w' = w := p_left h.cur
theorem HS.words (h : HS w0 g lo hi b2 b3 w c x2 x3) (n : Int) : Calls Try.prog 59 #[.pointer (some ⟨g, 0, none⟩), .int .i64 n] w fun en w' => ∃ A' c', en = .returned (.slice A' (c.wordsV n).length c') ∧ (c.wordsV n).length ≤ c' ∧ Row16 w.heap.size w'.heap.size w' A' (c.wordsV n) ∧ HS w0 g lo hi b2 b3 w' (c.wordsS n) x2 x3 :=
  (p_words h.cur n).mono fun en w' ⟨A', c', e, z, r, p, u⟩ => ⟨A', c', e, z, r, h.stp p u⟩
theorem HS.put (h : HS w0 g lo hi b2 b3 w c x2 x3) (hn : b2 ≠ b3) (i : Nat) (v : Value) : HS w0 g lo hi b2 b3 (w.setCell ⟨b3, i, none⟩ v) c x2 (x3.setIfInBounds i v) := by
  have hk : Kept w (w.setCell ⟨b3, i, none⟩ v) (fun k => k = b3) := (Kept.refl w (fun k => k = b3)).setCell (p := ⟨b3, i, none⟩) (.inl rfl) v
  have hh := h.cur.1.1
  refine ⟨h.cur.on hk (fun k e => by have := h.gl; omega) (fun e => by have := h.gl; omega), ⟨h.up.os, h.up.tape, h.up.output, h.up.kept.then_ hk fun k e => .inr (by have := h.gl; omega)⟩, h.gl, blk_kept h.h2 hk (fun e => hn e), ?_⟩
  exact blk_put h.h3 i v rfl
theorem HS.put0 {a b d : Int} {v : Value} (h : HS w0 g lo hi b2 b3 w c x2 (recC a b d v)) (hn : b2 ≠ b3) (z : Int) : HS w0 g lo hi b2 b3 (w.setCell ⟨b3, 0, none⟩ (.int .u16 z)) c x2 (recC z b d v) := h.put hn 0 _
theorem HS.put1 {a b d : Int} {v : Value} (h : HS w0 g lo hi b2 b3 w c x2 (recC a b d v)) (hn : b2 ≠ b3) (z : Int) : HS w0 g lo hi b2 b3 (w.setCell ⟨b3, 1, none⟩ (.int .u16 z)) c x2 (recC a z d v) := h.put hn 1 _
theorem HS.put2 {a b d : Int} {v : Value} (h : HS w0 g lo hi b2 b3 w c x2 (recC a b d v)) (hn : b2 ≠ b3) (z : Int) : HS w0 g lo hi b2 b3 (w.setCell ⟨b3, 2, none⟩ (.int .u16 z)) c x2 (recC a b z v) := h.put hn 2 _
theorem HS.put3 {a b d : Int} {v : Value} (h : HS w0 g lo hi b2 b3 w c x2 (recC a b d v)) (hn : b2 ≠ b3) (z : Value) : HS w0 g lo hi b2 b3 (w.setCell ⟨b3, 3, none⟩ z) c x2 (recC a b d z) := h.put hn 3 _
theorem HS.drew (h : HS w0 g lo hi b2 b3 w c x2 x3) : HS w0 g lo hi b2 b3 w.drew c x2 x3 :=
  h.stp (h.cur.on (S := fun _ => False) (Kept.refl w _).drew (fun _ h => h.elim) (fun h => h)) ⟨rfl, rfl, rfl, Kept.refl _ _⟩
theorem HS.fill (h : HS w0 g lo hi b2 b3 w c x2 x3) {cx : Array Value} (h1 : w'.heap[b2]? = some (.cells cx 43 (0, 0))) (u : Up1 b2 w w') : PAt lo hi w' g c ∧ Upd g w0 w' := by
  have hh := h.cur.1.1
  exact ⟨h.cur.on u.kept (fun k e => by have := h.gl; omega) (fun e => by have := h.gl; omega), ⟨u.os.trans h.up.os, u.tape.trans h.up.tape, u.output.trans h.up.output, h.up.kept.then_ u.kept fun k e => .inr (by have := h.gl; omega)⟩⟩
theorem HS.at3 (h : HS w0 g lo hi b2 b3 w c x2 x3) (i : Nat) : w.cell? ⟨b3, i, none⟩ = x3[i]? ∧ w.frozen? ⟨b3, i, none⟩ = false := ⟨blk_cell h.h3 i, blk_frozen h.h3 i⟩
end
theorem row_out {w0 wa wb wc : World} {g lo hi b2 b3 : Nat} {c : Cu} {x2 x3 : Array Value} {A : Option Addr} {l : List Int} (h : Row16 wa.heap.size wb.heap.size wb A l) (u : Upd g w0 wa) (h2 : HS w0 g lo hi b2 b3 wb c x2 x3) (hl : b2 < wa.heap.size) (k : Up1 b2 wb wc) : Row16 w0.heap.size wc.heap.size wc A l := by
  have := u.kept.1
  have := k.kept.1
  exact (h.on (k.kept.mono fun j hj => .inl (by omega))).wide (by omega) (by omega)
theorem recs_one {a b d : Int} {A : Option Addr} {n k : Nat} : (recC a b d (.slice A n k)).all (·.oneCell') = true := by simp [Value.oneCell']
theorem head_any {lo hi g : Nat} {c0 : Cu} {w : World} (h : PAt lo hi w g c0) :
    Calls Try.prog 35 #[.pointer (some ⟨g, 0, none⟩)] w fun en w' => en = .returned (.agg #[.int .u16 (head c0).2.1, .int .u16 (head c0).2.2.1, .int .u16 (head c0).2.2.2, .slice none 0 0]) ∧ PAt lo hi w' g (head c0).1 ∧ Upd g w w' := by
  have HP := Aside0.mk h
  clear h
  go_enter Try.func35, Try.ntmps35
  go_upto_region 1 with (first | ((with_reducible refine gate_dst (N := 2) rfl ?_); refine ev_rec rfl rfl ?_; intro b2 w1 hg_ h1_ h2_; have H := Aside0.mk (HS.start HP.out h2_ hg_ h1_); clear hg_ h1_ h2_))
  go_upto_region 2 with (first | (go_at_call 21; (with_reducible refine (HS.byte H.out).mono ?_); rintro en x1 ⟨rfl, hp_⟩; obtain ⟨c1, ec_⟩ : ∃ z, z = c0.byteS := ⟨_, rfl⟩; rw [← ec_] at hp_; have Ec1 := Aside0.mk ec_; clear ec_; have n0_ := Aside0.mk hp_; clear H hp_; have H := n0_; clear n0_) | (go_at_call 22; (with_reducible refine (HS.need H.out (c0.byteV == 6) 9).mono ?_); rintro en x2 ⟨rfl, hp_⟩; obtain ⟨c2, ec_⟩ : ∃ z, z = c1.need (c0.byteV == 6) 9 := ⟨_, rfl⟩; rw [← ec_] at hp_; have Ec2 := Aside0.mk ec_; clear ec_; have n0_ := Aside0.mk hp_; clear H hp_; have H := n0_; clear n0_))
  go_upto_region 3 with (first | ((with_reducible refine gate_dst (N := 3) rfl ?_); refine ev_rec rfl rfl ?_; intro b3 w2 hg_ h1_ h2_; obtain ⟨n0_, n1_⟩ := HS.new H.out h2_ hg_ h1_; have NE := Aside0.mk n1_; have m0_ := Aside0.mk n0_; clear H hg_ h1_ h2_ n0_ n1_; have H := m0_; clear m0_))
  go_upto_region 4 with (first | (go_at_call 58; (with_reducible refine (HS.word H.out).mono ?_); rintro en x3 ⟨rfl, hp_⟩; obtain ⟨c3, ec_⟩ : ∃ z, z = c2.wordS := ⟨_, rfl⟩; rw [← ec_] at hp_; have Ec3 := Aside0.mk ec_; clear ec_; have k0 := (HS.at3 hp_ 0).1; have f0 := (HS.at3 hp_ 0).2; have n0_ := Aside0.mk hp_; clear H hp_; have H := n0_; clear n0_))
  have n0_ := Aside0.mk (HS.put0 H.out NE.out c2.wordV)
  clear H k0 f0
  have H := n0_
  clear n0_
  have k0 : World.cell? _ _ = some (Value.int .u16 c2.wordV) := (HS.at3 H.out 0).1
  go_upto_region 5 with (first | (go_at_call 22; (with_reducible refine (HS.need H.out (c2.wordV != 0) 6).mono ?_); rintro en x4 ⟨rfl, hp_⟩; obtain ⟨c4, ec_⟩ : ∃ z, z = c3.need (c2.wordV != 0) 6 := ⟨_, rfl⟩; rw [← ec_] at hp_; have Ec4 := Aside0.mk ec_; clear ec_; have n0_ := Aside0.mk hp_; clear H hp_ k0; have H := n0_; clear n0_))
  go_upto_region 6 with (first | (go_at_call 58; (with_reducible refine (HS.word H.out).mono ?_); rintro en x5 ⟨rfl, hp_⟩; obtain ⟨c5, ec_⟩ : ∃ z, z = c4.wordS := ⟨_, rfl⟩; rw [← ec_] at hp_; have Ec5 := Aside0.mk ec_; clear ec_; have k0 := (HS.at3 hp_ 1).1; have f0 := (HS.at3 hp_ 1).2; have n0_ := Aside0.mk hp_; clear H hp_; have H := n0_; clear n0_))
  have n0_ := Aside0.mk (HS.put1 H.out NE.out c4.wordV)
  clear H k0 f0
  have H := n0_
  clear n0_
  have k0 : World.cell? _ _ = some (Value.int .u16 c4.wordV) := (HS.at3 H.out 1).1
  go_upto_region 7 with (first | (go_at_call 22; (with_reducible refine (HS.need H.out (decide (c4.wordV ≤ 9999)) 7).mono ?_); rintro en x6 ⟨rfl, hp_⟩; obtain ⟨c6, ec_⟩ : ∃ z, z = c5.need (decide (c4.wordV ≤ 9999)) 7 := ⟨_, rfl⟩; rw [← ec_] at hp_; have Ec6 := Aside0.mk ec_; clear ec_; have n0_ := Aside0.mk hp_; clear H hp_ k0; have H := n0_; clear n0_))
  go_upto_region 8 with (first | (go_at_call 58; (with_reducible refine (HS.word H.out).mono ?_); rintro en x7 ⟨rfl, hp_⟩; obtain ⟨c7, ec_⟩ : ∃ z, z = c6.wordS := ⟨_, rfl⟩; rw [← ec_] at hp_; have Ec7 := Aside0.mk ec_; clear ec_; have k0 := (HS.at3 hp_ 2).1; have f0 := (HS.at3 hp_ 2).2; have n0_ := Aside0.mk hp_; clear H hp_; have H := n0_; clear n0_))
  have n0_ := Aside0.mk (HS.put2 H.out NE.out c6.wordV)
  clear H k0 f0
  have H := n0_
  clear n0_
  have k0 : World.cell? _ _ = some (Value.int .u16 c6.wordV) := (HS.at3 H.out 2).1
  go_upto_region 9 with (first | (go_at_call 22; (with_reducible refine (HS.need H.out (c6.wordV != 0) 5).mono ?_); rintro en x8 ⟨rfl, hp_⟩; obtain ⟨c8, ec_⟩ : ∃ z, z = c7.need (c6.wordV != 0) 5 := ⟨_, rfl⟩; rw [← ec_] at hp_; have Ec8 := Aside0.mk ec_; clear ec_; have n0_ := Aside0.mk hp_; clear H hp_ k0; have H := n0_; clear n0_))
  have HE : Aside0 (head c0 = (c8, c2.wordV, c4.wordV, c6.wordV)) := ⟨by simp only [head]; rw [← Ec1.out, ← Ec2.out, ← Ec3.out, ← Ec4.out, ← Ec5.out, ← Ec6.out, ← Ec7.out, ← Ec8.out]⟩
  go_wp2_with (first | ((with_reducible refine gate_dst (N := 33) rfl ?_); refine wpList_load_row rfl 43 (.tmp 3) rfl b3 rfl 43 _ (0, 0) _ H.out.h3 Try.underlying43 rfl (rec_info rfl) ?_) | ((with_reducible refine gate_op (u := .store 43 (.tmp 2) (.tmp 33)) rfl ?_); refine Same.wpList_store_row 43 (.tmp 2) (.tmp 33) rfl rfl rfl rfl H.out.h2 rfl (rec_info rfl) recs_one ?_; intro x9 h3_ h4_; have HF := Aside0.mk (HS.fill H.out h3_ h4_); have HB := Aside0.mk h3_; clear h3_ h4_))
  refine bodyPost_ret (results_cell_row rfl _ _ b2 43 _ (0, 0) _ rfl HB.out Try.underlying43 rfl (rec_info rfl)) rfl ⟨?_, ?_⟩
  · rw [HE.out]
  · rw [HE.out]; exact HF.out
theorem told_w1 {lo hi g : Nat} {c0 : Cu} {w : World} (h : PAt lo hi w g c0) (k1 : ¬ c0.byteV % 2 = 1) :
    Calls Try.prog 38 #[.pointer (some ⟨g, 0, none⟩)] w fun en w' => ∃ A n, en = .returned (.agg (recC 0 0 0 (.slice A (told c0).2.f3.length n))) ∧ (told c0).2.f3.length ≤ n ∧ Row16 w.heap.size w'.heap.size w' A (told c0).2.f3 ∧ PAt lo hi w' g (told c0).1 ∧ Upd g w w' := by
  have HP := Aside0.mk h
  clear h
  have K1 := Aside0.mk k1
  have e1 : (c0.byteV % 2 == 1) = false := beq_eq_false_iff_ne.2 k1
  go_enter Try.func38, Try.ntmps38
  go_upto_region 1 with (first | ((with_reducible refine gate_dst (N := 2) rfl ?_); refine ev_rec rfl rfl ?_; intro b2 w1 hg_ h1_ h2_; have H := Aside0.mk (HS.start HP.out h2_ hg_ h1_); clear hg_ h1_ h2_))
  go_upto_region 2 with (first | (go_at_call 21; obtain ⟨l0, h0⟩ := Cu.byteV_bd (HS.good H.out); (with_reducible refine (HS.byte H.out).mono ?_); rintro en x1 ⟨rfl, hp_⟩; obtain ⟨c1, ec_⟩ : ∃ z, z = c0.byteS := ⟨_, rfl⟩; rw [← ec_] at hp_; have Ec1 := Aside0.mk ec_; clear ec_; have n0_ := Aside0.mk hp_; clear H hp_; have H := n0_; clear n0_))
  go_upto_region 3 with (first | (go_at_call 22; (with_reducible refine (HS.need H.out (false) 5).mono ?_); rintro en x2 ⟨rfl, hp_⟩; obtain ⟨c2, ec_⟩ : ∃ z, z = c1.need (false) 5 := ⟨_, rfl⟩; rw [← ec_] at hp_; have Ec2 := Aside0.mk ec_; clear ec_; have n0_ := Aside0.mk hp_; clear H hp_; have H := n0_; clear n0_))
  go_upto_region 4 with (first | (go_at_call 21; obtain ⟨l2, h2⟩ := Cu.byteV_bd (HS.good H.out); (with_reducible refine (HS.byte H.out).mono ?_); rintro en x3 ⟨rfl, hp_⟩; obtain ⟨c3, ec_⟩ : ∃ z, z = c2.byteS := ⟨_, rfl⟩; rw [← ec_] at hp_; have Ec3 := Aside0.mk ec_; clear ec_; have n0_ := Aside0.mk hp_; clear H hp_; have H := n0_; clear n0_) | (go_at_call 22; (with_reducible refine (HS.need H.out (c2.byteV == 6) 9).mono ?_); rintro en x4 ⟨rfl, hp_⟩; obtain ⟨c4, ec_⟩ : ∃ z, z = c3.need (c2.byteV == 6) 9 := ⟨_, rfl⟩; rw [← ec_] at hp_; have Ec4 := Aside0.mk ec_; clear ec_; have n0_ := Aside0.mk hp_; clear H hp_; have H := n0_; clear n0_))
  have HE : Aside0 (told c0 = (c4.wordsS (Int.tdiv (c0.byteV - 1) 2), ⟨0, 0, 0, c4.wordsV (Int.tdiv (c0.byteV - 1) 2)⟩)) := ⟨by
    have ek : (decide (c0.byteV % 2 = 1) && decide (3 ≤ c0.byteV) && decide (c0.byteV ≤ (c1.xs.length : Int))) = (false) := by simp [K1.out]
    simp only [told]
    rw [← Ec1.out, ek, ← Ec2.out, ← Ec3.out, ← Ec4.out]⟩
  have EU := Aside0.mk H.out.up
  have EL := Aside0.mk H.out.h2
  go_wp2_with (first | (go_at_call 59; (with_reducible refine (HS.words H.out (Int.tdiv (c0.byteV - 1) 2)).mono ?_); rintro en x5 ⟨A5, n5, rfl, hz_, hr_, hp_⟩; have RZ := Aside0.mk hz_; have RR := Aside0.mk hr_; have n0_ := Aside0.mk hp_; clear H hp_ hz_ hr_; have H := n0_; clear n0_) | ((with_reducible refine gate_op (u := .store 43 (.tmp 2) (.tmp 32)) rfl ?_); refine Same.wpList_store_row 43 (.tmp 2) (.tmp 32) rfl rfl rfl rfl H.out.h2 rfl (rec_info rfl) recs_one ?_; intro x9 h3_ h4_; have HF := Aside0.mk (HS.fill H.out h3_ h4_); have HB := Aside0.mk h3_; have HU := Aside0.mk h4_; clear h3_ h4_))
  refine bodyPost_ret (results_cell_row rfl _ _ b2 43 _ (0, 0) _ rfl HB.out Try.underlying43 rfl (rec_info rfl)) rfl ⟨A5, n5, ?_, ?_, ?_, ?_⟩
  · rw [HE.out]
  · rw [HE.out]; exact RZ.out
  · rw [HE.out]; exact row_out RR.out EU.out H.out (blk_lt EL.out) HU.out
  · rw [HE.out]; exact HF.out
theorem told_w2 {lo hi g : Nat} {c0 : Cu} {w : World} (h : PAt lo hi w g c0) (k1 : c0.byteV % 2 = 1) (k2 : ¬ 3 ≤ c0.byteV) :
    Calls Try.prog 38 #[.pointer (some ⟨g, 0, none⟩)] w fun en w' => ∃ A n, en = .returned (.agg (recC 0 0 0 (.slice A (told c0).2.f3.length n))) ∧ (told c0).2.f3.length ≤ n ∧ Row16 w.heap.size w'.heap.size w' A (told c0).2.f3 ∧ PAt lo hi w' g (told c0).1 ∧ Upd g w w' := by
  have HP := Aside0.mk h
  clear h
  have K1 := Aside0.mk k1
  have e1 : (c0.byteV % 2 == 1) = true := beq_iff_eq.2 k1
  have e2 : decide (3 ≤ c0.byteV) = false := decide_eq_false k2
  have K2 := Aside0.mk k2
  clear k2
  go_enter Try.func38, Try.ntmps38
  go_upto_region 1 with (first | ((with_reducible refine gate_dst (N := 2) rfl ?_); refine ev_rec rfl rfl ?_; intro b2 w1 hg_ h1_ h2_; have H := Aside0.mk (HS.start HP.out h2_ hg_ h1_); clear hg_ h1_ h2_))
  go_upto_region 2 with (first | (go_at_call 21; obtain ⟨l0, h0⟩ := Cu.byteV_bd (HS.good H.out); (with_reducible refine (HS.byte H.out).mono ?_); rintro en x1 ⟨rfl, hp_⟩; obtain ⟨c1, ec_⟩ : ∃ z, z = c0.byteS := ⟨_, rfl⟩; rw [← ec_] at hp_; have Ec1 := Aside0.mk ec_; clear ec_; have n0_ := Aside0.mk hp_; clear H hp_; have H := n0_; clear n0_))
  go_upto_region 3 with (first | (go_at_call 22; (with_reducible refine (HS.need H.out (false) 5).mono ?_); rintro en x2 ⟨rfl, hp_⟩; obtain ⟨c2, ec_⟩ : ∃ z, z = c1.need (false) 5 := ⟨_, rfl⟩; rw [← ec_] at hp_; have Ec2 := Aside0.mk ec_; clear ec_; have n0_ := Aside0.mk hp_; clear H hp_; have H := n0_; clear n0_))
  go_upto_region 4 with (first | (go_at_call 21; obtain ⟨l2, h2⟩ := Cu.byteV_bd (HS.good H.out); (with_reducible refine (HS.byte H.out).mono ?_); rintro en x3 ⟨rfl, hp_⟩; obtain ⟨c3, ec_⟩ : ∃ z, z = c2.byteS := ⟨_, rfl⟩; rw [← ec_] at hp_; have Ec3 := Aside0.mk ec_; clear ec_; have n0_ := Aside0.mk hp_; clear H hp_; have H := n0_; clear n0_) | (go_at_call 22; (with_reducible refine (HS.need H.out (c2.byteV == 6) 9).mono ?_); rintro en x4 ⟨rfl, hp_⟩; obtain ⟨c4, ec_⟩ : ∃ z, z = c3.need (c2.byteV == 6) 9 := ⟨_, rfl⟩; rw [← ec_] at hp_; have Ec4 := Aside0.mk ec_; clear ec_; have n0_ := Aside0.mk hp_; clear H hp_; have H := n0_; clear n0_))
  have HE : Aside0 (told c0 = (c4.wordsS ((c0.byteV - 1) / 2), ⟨0, 0, 0, c4.wordsV ((c0.byteV - 1) / 2)⟩)) := ⟨by
    have ek : (decide (c0.byteV % 2 = 1) && decide (3 ≤ c0.byteV) && decide (c0.byteV ≤ (c1.xs.length : Int))) = (false) := by have k2 := K2.out; simp [K1.out]; omega
    simp only [told]
    rw [tdiv_id (show 0 ≤ c0.byteV - 1 by have := K1.out; omega), ← Ec1.out, ek, ← Ec2.out, ← Ec3.out, ← Ec4.out]⟩
  have EU := Aside0.mk H.out.up
  have EL := Aside0.mk H.out.h2
  go_wp2_with (first | (go_at_call 59; (with_reducible refine (HS.words H.out ((c0.byteV - 1) / 2)).mono ?_); rintro en x5 ⟨A5, n5, rfl, hz_, hr_, hp_⟩; have RZ := Aside0.mk hz_; have RR := Aside0.mk hr_; have n0_ := Aside0.mk hp_; clear H hp_ hz_ hr_; have H := n0_; clear n0_) | ((with_reducible refine gate_op (u := .store 43 (.tmp 2) (.tmp 32)) rfl ?_); refine Same.wpList_store_row 43 (.tmp 2) (.tmp 32) rfl rfl rfl rfl H.out.h2 rfl (rec_info rfl) recs_one ?_; intro x9 h3_ h4_; have HF := Aside0.mk (HS.fill H.out h3_ h4_); have HB := Aside0.mk h3_; have HU := Aside0.mk h4_; clear h3_ h4_))
  refine bodyPost_ret (results_cell_row rfl _ _ b2 43 _ (0, 0) _ rfl HB.out Try.underlying43 rfl (rec_info rfl)) rfl ⟨A5, n5, ?_, ?_, ?_, ?_⟩
  · rw [HE.out]
  · rw [HE.out]; exact RZ.out
  · rw [HE.out]; exact row_out RR.out EU.out H.out (blk_lt EL.out) HU.out
  · rw [HE.out]; exact HF.out
theorem told_w3 {lo hi g : Nat} {c0 : Cu} {w : World} (h : PAt lo hi w g c0) (k1 : c0.byteV % 2 = 1) (k2 : 3 ≤ c0.byteV) :
    Calls Try.prog 38 #[.pointer (some ⟨g, 0, none⟩)] w fun en w' => ∃ A n, en = .returned (.agg (recC 0 0 0 (.slice A (told c0).2.f3.length n))) ∧ (told c0).2.f3.length ≤ n ∧ Row16 w.heap.size w'.heap.size w' A (told c0).2.f3 ∧ PAt lo hi w' g (told c0).1 ∧ Upd g w w' := by
  have HP := Aside0.mk h
  clear h
  have K1 := Aside0.mk k1
  have e1 : (c0.byteV % 2 == 1) = true := beq_iff_eq.2 k1
  have e2 : decide (3 ≤ c0.byteV) = true := decide_eq_true k2
  have K2 := Aside0.mk k2
  clear k2
  go_enter Try.func38, Try.ntmps38
  go_upto_region 1 with (first | ((with_reducible refine gate_dst (N := 2) rfl ?_); refine ev_rec rfl rfl ?_; intro b2 w1 hg_ h1_ h2_; have H := Aside0.mk (HS.start HP.out h2_ hg_ h1_); clear hg_ h1_ h2_))
  go_upto_region 2 with (first | (go_at_call 21; obtain ⟨l0, h0⟩ := Cu.byteV_bd (HS.good H.out); (with_reducible refine (HS.byte H.out).mono ?_); rintro en x1 ⟨rfl, hp_⟩; obtain ⟨c1, ec_⟩ : ∃ z, z = c0.byteS := ⟨_, rfl⟩; rw [← ec_] at hp_; have Ec1 := Aside0.mk ec_; clear ec_; have n0_ := Aside0.mk hp_; clear H hp_; have H := n0_; clear n0_))
  go_upto_region 3 with (first | (go_at_call 43; (with_reducible refine (HS.left H.out).mono ?_); rintro en x_ ⟨rfl, rfl⟩) | (go_at_call 22; (with_reducible refine (HS.need H.out (decide (c0.byteV ≤ (c1.xs.length : Int))) 5).mono ?_); rintro en x2 ⟨rfl, hp_⟩; obtain ⟨c2, ec_⟩ : ∃ z, z = c1.need (decide (c0.byteV ≤ (c1.xs.length : Int))) 5 := ⟨_, rfl⟩; rw [← ec_] at hp_; have Ec2 := Aside0.mk ec_; clear ec_; have n0_ := Aside0.mk hp_; clear H hp_; have H := n0_; clear n0_))
  go_upto_region 4 with (first | (go_at_call 21; obtain ⟨l2, h2⟩ := Cu.byteV_bd (HS.good H.out); (with_reducible refine (HS.byte H.out).mono ?_); rintro en x3 ⟨rfl, hp_⟩; obtain ⟨c3, ec_⟩ : ∃ z, z = c2.byteS := ⟨_, rfl⟩; rw [← ec_] at hp_; have Ec3 := Aside0.mk ec_; clear ec_; have n0_ := Aside0.mk hp_; clear H hp_; have H := n0_; clear n0_) | (go_at_call 22; (with_reducible refine (HS.need H.out (c2.byteV == 6) 9).mono ?_); rintro en x4 ⟨rfl, hp_⟩; obtain ⟨c4, ec_⟩ : ∃ z, z = c3.need (c2.byteV == 6) 9 := ⟨_, rfl⟩; rw [← ec_] at hp_; have Ec4 := Aside0.mk ec_; clear ec_; have n0_ := Aside0.mk hp_; clear H hp_; have H := n0_; clear n0_))
  have HE : Aside0 (told c0 = (c4.wordsS ((c0.byteV - 1) / 2), ⟨0, 0, 0, c4.wordsV ((c0.byteV - 1) / 2)⟩)) := ⟨by
    have ek : (decide (c0.byteV % 2 = 1) && decide (3 ≤ c0.byteV) && decide (c0.byteV ≤ (c1.xs.length : Int))) = (decide (c0.byteV ≤ (c1.xs.length : Int))) := by have k2 := K2.out; simp [K1.out]; omega
    simp only [told]
    rw [tdiv_id (show 0 ≤ c0.byteV - 1 by have := K1.out; omega), ← Ec1.out, ek, ← Ec2.out, ← Ec3.out, ← Ec4.out]⟩
  have EU := Aside0.mk H.out.up
  have EL := Aside0.mk H.out.h2
  go_wp2_with (first | (go_at_call 59; (with_reducible refine (HS.words H.out ((c0.byteV - 1) / 2)).mono ?_); rintro en x5 ⟨A5, n5, rfl, hz_, hr_, hp_⟩; have RZ := Aside0.mk hz_; have RR := Aside0.mk hr_; have n0_ := Aside0.mk hp_; clear H hp_ hz_ hr_; have H := n0_; clear n0_) | ((with_reducible refine gate_op (u := .store 43 (.tmp 2) (.tmp 32)) rfl ?_); refine Same.wpList_store_row 43 (.tmp 2) (.tmp 32) rfl rfl rfl rfl H.out.h2 rfl (rec_info rfl) recs_one ?_; intro x9 h3_ h4_; have HF := Aside0.mk (HS.fill H.out h3_ h4_); have HB := Aside0.mk h3_; have HU := Aside0.mk h4_; clear h3_ h4_))
  refine bodyPost_ret (results_cell_row rfl _ _ b2 43 _ (0, 0) _ rfl HB.out Try.underlying43 rfl (rec_info rfl)) rfl ⟨A5, n5, ?_, ?_, ?_, ?_⟩
  · rw [HE.out]
  · rw [HE.out]; exact RZ.out
  · rw [HE.out]; exact row_out RR.out EU.out H.out (blk_lt EL.out) HU.out
  · rw [HE.out]; exact HF.out
theorem told_any {lo hi g : Nat} {c0 : Cu} {w : World} (h : PAt lo hi w g c0) :
    Calls Try.prog 38 #[.pointer (some ⟨g, 0, none⟩)] w fun en w' => ∃ A n, en = .returned (.agg (recC 0 0 0 (.slice A (told c0).2.f3.length n))) ∧ (told c0).2.f3.length ≤ n ∧ Row16 w.heap.size w'.heap.size w' A (told c0).2.f3 ∧ PAt lo hi w' g (told c0).1 ∧ Upd g w w' := by
  by_cases k1 : c0.byteV % 2 = 1
  · by_cases k2 : 3 ≤ c0.byteV
    · exact told_w3 h k1 k2
    · exact told_w2 h k1 k2
  · exact told_w1 h k1
end Go.Proofs.Ytdjeekpgcjcffaa.Fil
end
section
namespace Go.Proofs.Ytdjeekpgcjcffaa.Fil
open Go.RowKit Go.Proofs.Ytdjeekpgcjcffaa.P Go.Proofs.Ytdjeekpgcjcffaa.E Go.Proofs.Ytdjeekpgcjcffaa.Cur Go.Proofs.Ytdjeekpgcjcffaa.Cu Go.Proofs.Ytdjeekpgcjcffaa.Same Go.Proofs.YtdjeekpgcjcffaaW.PrintWords Go.Proofs.YtdjeekpgcjcffaaW.PrintLast Go.Proofs.YtdjeekpgcjcffaaW.PrintMore
def wr.T2 : Bool × List (List Nat × List Nat) := (true, [([], []), ([], []), ([1], [1]), ([2], [2]), ([3], [3]), ([], []), ([5], [5]), ([4, 6], [4, 6]), ([0, 7, 6], [0, 7])])
def wr.B2 : List Nat := [0, 0, 2, 6, 14, 0, 32, 126, 255]
theorem wr.tab2 : rtab .any (opsOf Try.f40 2) = wr.T2 := by kernel_rfl
theorem wr.bits2 : waitsOk wr.T2.2 wr.B2 = true := by kernel_rfl
theorem head_bd {c : Cu} (h : c.good) : 0 ≤ (head c).2.2.2 ∧ (head c).2.2.2 < 65536 := by
  unfold head
  exact Cu.wordV_bd (Cu.good_need (Cu.good_wordS (Cu.good_need (Cu.good_wordS (Cu.good_need (Cu.good_byteS h) _ _)) _ _)) _ _)
theorem head_let {lo hi g : Nat} {c0 c1 : Cu} {f0 f1 f2 : Int} {w : World} (e : (c1, f0, f1, f2) = head c0) (h : PAt lo hi w g c0) :
    Calls Try.prog 35 #[.pointer (some ⟨g, 0, none⟩)] w fun en w' => en = .returned (.agg (recC f0 f1 f2 (.slice none 0 0))) ∧ PAt lo hi w' g c1 ∧ Upd g w w' := by
  have := head_any h
  rw [← e] at this
  exact this
theorem HS.row3 {w0 w w' : World} {g lo hi b2 b3 : Nat} {c : Cu} {x2 x3 cx : Array Value} (h : HS w0 g lo hi b2 b3 w c x2 x3) (hn : b2 ≠ b3) (h1 : w'.heap[b3]? = some (.cells cx 43 (0, 0))) (u : Up1 b3 w w') : HS w0 g lo hi b2 b3 w' c x2 cx := by
  have hh := h.cur.1.1
  exact ⟨h.cur.on u.kept (fun k e => by have := h.gl; omega) (fun e => by have := h.gl; omega), ⟨u.os.trans h.up.os, u.tape.trans h.up.tape, u.output.trans h.up.output, h.up.kept.then_ u.kept fun k e => .inr (by have := h.gl; omega)⟩, h.gl, blk_kept h.h2 u.kept (fun e => hn e), h1⟩
theorem up_set (w : World) (b i : Nat) (v : Value) : Up1 b w (w.setCell ⟨b, i, none⟩ v) := ⟨rfl, rfl, rfl, (Kept.refl w (fun k => k = b)).setCell (p := ⟨b, i, none⟩) (.inl rfl) v⟩
theorem row_out2 {w0 wa wb wc wd : World} {g b2 b3 : Nat} {A : Option Addr} {l : List Int} (h : Row16 wa.heap.size wb.heap.size wb A l) (u : Upd g w0 wa) (k1 : Up1 b3 wb wc) (h3 : b3 < wa.heap.size) (k2 : Up1 b2 wc wd) (h2 : b2 < wa.heap.size) : Row16 w0.heap.size wd.heap.size wd A l := by
  have := u.kept.1
  have := k1.kept.1
  have := k2.kept.1
  exact ((h.on (k1.kept.mono fun j hj => .inl (by omega))).on (k2.kept.mono fun j hj => .inl (by omega))).wide (by omega) (by omega)
theorem written_any {lo hi g : Nat} {c0 : Cu} {w : World} (h : PAt lo hi w g c0) :
    Calls Try.prog 40 #[.pointer (some ⟨g, 0, none⟩)] w fun en w' => ∃ A n, en = .returned (.agg (recC (written c0).2.f0 (written c0).2.f1 (written c0).2.f2 (.slice A (written c0).2.f3.length n))) ∧ (written c0).2.f3.length ≤ n ∧ Row16 w.heap.size w'.heap.size w' A (written c0).2.f3 ∧ PAt lo hi w' g (written c0).1 ∧ Upd g w w' := by
  have HP := Aside0.mk h
  clear h
  obtain ⟨⟨c1, f0, f1, f2⟩, eh_⟩ : ∃ z, z = head c0 := ⟨_, rfl⟩
  have HD := Aside0.mk eh_
  have hb_ := head_bd HP.out.2
  rw [← eh_] at hb_
  obtain ⟨l2, h2⟩ : 0 ≤ f2 ∧ f2 < 65536 := hb_
  clear eh_
  go_enter Try.func40, Try.ntmps40
  go_upto_region 1 with (first | ((with_reducible refine gate_dst (N := 2) rfl ?_); refine ev_rec rfl rfl ?_; intro b2 w1 hg_ h1_ h2_; have H := Aside0.mk (HS.start HP.out h2_ hg_ h1_); clear hg_ h1_ h2_))
  go_upto_region 2 with (first | (go_at_call 35; (with_reducible refine (head_let HD.out H.out.cur).mono ?_); rintro en x1 ⟨rfl, hp_, hu_⟩; have m0_ := Aside0.mk (H.out.stp hp_ hu_); clear H hp_ hu_; have H := m0_; clear m0_) | ((with_reducible refine gate_dst (N := 3) rfl ?_); refine ev_rec rfl rfl ?_; intro b3 w2 hg_ h1_ h2_; obtain ⟨n0_, n1_⟩ := HS.new H.out h2_ hg_ h1_; have NE := Aside0.mk n1_; have m0_ := Aside0.mk n0_; clear H n0_ n1_; have H := m0_; clear m0_; clear hg_ h1_ h2_) | ((with_reducible refine gate_op (u := .store 43 (.tmp 3) (.tmp 5)) rfl ?_); refine Same.wpList_store_row 43 (.tmp 3) (.tmp 5) rfl rfl rfl rfl H.out.h3 rfl (rec_info rfl) recs_one ?_; intro x9 h3_ h4_; have m0_ := Aside0.mk (HS.row3 H.out NE.out h3_ h4_); clear H h3_ h4_; have H := m0_; clear m0_))
  go_upto_region 2 with (fail)
  have n0_ := Aside0.mk (HS.drew H.out)
  clear H
  have H := n0_
  clear n0_
  have wk := wrap64_id (x := f2) (by omega) (by omega)
  have wkb : IntKind.i64.wrap (f2) = f2 := by rw [i64_w]; exact wk
  have wk2 := wrap64_id (x := 2 * f2) (by omega) (by omega)
  have wk2b : IntKind.i64.wrap (2 * f2) = 2 * f2 := by rw [i64_w]; exact wk2
  refine start_ (n := 9) (S := fun w' => w'.cell? ⟨b3, 2, none⟩ = some (.int .u16 f2)) (ds := []) (bm 9 0) (by as_aux_lemma => kernel_rfl) rfl (by as_aux_lemma => kernel_rfl) ((show World.cell? _ _ = some (Value.int .u16 f2) from (HS.at3 H.out 2).1)) (fun hHeld => ?_)
  refine with_tabW wr.tab2 wr.bits2 (fun HT_ HW_ => ?_)
  refine pure_ (i := 0) (N := some 6) (v := ?_) (a' := ?_) (bm 9 1) rfl rfl (any_of HT_.out (by as_aux_lemma => kernel_rfl)) (fun _ _ _ h => h) (Or.inl ⟨by rfl, ?_⟩) ?_ ?_
  rotate_left
  · intro w'
    go_simp
    with_reducible rfl
  rotate_left
  · simp only [Act.put, List.setIfInBounds_toArray, List.set_cons_zero, List.set_cons_succ, i64_w, i32_w]
    rfl
  refine pure_ (i := 1) (N := some 7) (v := ?_) (a' := ?_) (bm 9 3) rfl rfl (any_of HT_.out (by as_aux_lemma => kernel_rfl)) (fun _ _ _ h => h) (Or.inl ⟨by rfl, ?_⟩) ?_ ?_
  rotate_left
  · intro w'
    go_simp
    with_reducible rfl
  rotate_left
  · simp only [Act.put, List.setIfInBounds_toArray, List.set_cons_zero, List.set_cons_succ, i64_w, i32_w]
    rfl
  refine pure_ (i := 5) (N := some 11) (v := ?_) (a' := ?_) (bm 9 35) rfl rfl (any_of HT_.out (by as_aux_lemma => kernel_rfl)) (fun _ _ _ h => h) (Or.inl ⟨by rfl, ?_⟩) ?_ ?_
  rotate_left
  · intro w'
    go_simp
    with_reducible rfl
  rotate_left
  · simp only [Act.put, List.setIfInBounds_toArray, List.set_cons_zero, List.set_cons_succ, i64_w, i32_w]
    rfl
  refine take_ (i := 2) (N := some 8) (v := ?_) (a' := ?_) (bm 9 39) rfl rfl (take_ofW HT_.out HW_.out (by as_aux_lemma => kernel_rfl)) (fun _ _ _ h => h) (Or.inl ⟨by rfl, ?_⟩) hHeld ?_ ?_
  rotate_left
  · intro w' s0
    go_simp
    with_reducible rfl
  rotate_left
  · simp only [Act.put, List.setIfInBounds_toArray, List.set_cons_zero, List.set_cons_succ, i64_w, i32_w]
    rfl
  refine pure_ (i := 3) (N := some 9) (v := ?_) (a' := ?_) (bm 9 47) rfl rfl (any_of HT_.out (by as_aux_lemma => kernel_rfl)) (fun _ _ _ h => h) (Or.inl ⟨by rfl, ?_⟩) ?_ ?_
  rotate_left
  · intro w'
    go_simp
    with_reducible rfl
  rotate_left
  · simp only [Act.put, List.setIfInBounds_toArray, List.set_cons_zero, List.set_cons_succ, i64_w, i32_w]
    rfl
  refine pure_ (i := 4) (N := some 10) (v := ?_) (a' := ?_) (bm 9 63) rfl rfl (any_of HT_.out (by as_aux_lemma => kernel_rfl)) (fun _ _ _ h => h) (Or.inl ⟨by rfl, ?_⟩) ?_ ?_
  rotate_left
  · intro w'
    go_simp
    with_reducible rfl
  rotate_left
  · simp only [Act.put, List.setIfInBounds_toArray, List.set_cons_zero, List.set_cons_succ, i64_w, i32_w]
    rfl
  refine one_ (i := 6) (N := some 12) (bm 9 127) rfl rfl (one_of HT_.out (by as_aux_lemma => kernel_rfl)) (by as_aux_lemma => decide) (fun K hK => ?_)
  refine goes_ Try.func43 (by as_aux_lemma => kernel_rfl) rfl #[.pointer (some ⟨g, 0, none⟩)] (by rfl) rfl rfl (by simp only [List.map_toArray, List.map_cons, List.map_nil]; rfl) ?_
  with_reducible refine (HS.left H.out).mono ?_
  rintro en y1 ⟨rfl, rfl⟩
  refine ⟨_, rfl, ?_⟩
  refine hK.out _ _ ((show World.cell? _ _ = some (Value.int .u16 f2) from (HS.at3 H.out 2).1)) (fun hHeld => ?_)
  clear hK K
  refine norm_ (a' := ?_) ?_ ?_
  rotate_left
  · show Act.put _ (some 12) _ = _
    simp only [Act.put, List.setIfInBounds_toArray, List.set_cons_zero, List.set_cons_succ, i64_w, i32_w]
    rfl
  refine pure_ (i := 7) (N := some 13) (v := ?_) (a' := ?_) (bm 9 255) rfl rfl (any_of HT_.out (by as_aux_lemma => kernel_rfl)) (fun _ _ _ h => h) (Or.inl ⟨by rfl, ?_⟩) ?_ ?_
  rotate_left
  · intro w'
    go_simp
    with_reducible rfl
  rotate_left
  · simp only [Act.put, List.setIfInBounds_toArray, List.set_cons_zero, List.set_cons_succ, i64_w, i32_w]
    rfl
  refine one_ (i := 8) (N := some 14) (bm 9 511) rfl rfl (one_of HT_.out (by as_aux_lemma => kernel_rfl)) (by as_aux_lemma => decide) (fun K hK => ?_)
  refine goes_ Try.func22 (by as_aux_lemma => kernel_rfl) rfl #[.pointer (some ⟨g, 0, none⟩), .bool (decide (2 * f2 ≤ (c1.xs.length : Int))), .int .i64 5] (by rfl) rfl rfl (by simp only [List.map_toArray, List.map_cons, List.map_nil]; rfl) ?_
  with_reducible refine (HS.need H.out (decide (2 * f2 ≤ (c1.xs.length : Int))) 5).mono ?_
  rintro en x3 ⟨rfl, hp_⟩
  obtain ⟨c2, ec_⟩ : ∃ z, z = c1.need (decide (2 * f2 ≤ (c1.xs.length : Int))) 5 := ⟨_, rfl⟩
  rw [← ec_] at hp_
  have Ec2 := Aside0.mk ec_
  clear ec_
  have n0_ := Aside0.mk hp_
  clear H hp_
  have H := n0_
  clear n0_
  refine ⟨_, rfl, ?_⟩
  refine hK.out _ _ ((show World.cell? _ _ = some (Value.int .u16 f2) from (HS.at3 H.out 2).1)) (fun hHeld => ?_)
  clear hK K
  refine norm_ (a' := ?_) ?_ ?_
  rotate_left
  · show Act.put _ (some 14) _ = _
    simp only [Act.put, List.setIfInBounds_toArray, List.set_cons_zero, List.set_cons_succ, i64_w, i32_w]
    rfl
  refine done_ (done_of HT_.out (by as_aux_lemma => kernel_rfl)) ?_
  have k2 : World.cell? _ _ = some (Value.int .u16 f2) := (HS.at3 H.out 2).1
  have EU := Aside0.mk H.out.up
  have EL := Aside0.mk H.out.h2
  have EL3 := Aside0.mk H.out.h3
  go_upto_region 4 with (first | (go_at_call 59; (with_reducible refine (HS.words H.out f2).mono ?_); rintro en x5 ⟨A5, n5, rfl, hz_, hr_, hp_⟩; have RZ := Aside0.mk hz_; have RR := Aside0.mk hr_; have k3 := (HS.at3 hp_ 3).1; have g3 := (HS.at3 hp_ 3).2; have n0_ := Aside0.mk hp_; clear H hp_ hz_ hr_ k2; have H := n0_; clear n0_))
  have n0_ := Aside0.mk (HS.put3 H.out NE.out (.slice A5 (c2.wordsV f2).length n5))
  have UP := Aside0.mk (up_set x5 b3 3 (.slice A5 (c2.wordsV f2).length n5))
  clear H k3 g3
  have H := n0_
  clear n0_
  go_wp2_with (first | ((with_reducible refine gate_dst (N := 21) rfl ?_); refine wpList_load_row rfl 43 (.tmp 3) rfl b3 rfl 43 _ (0, 0) _ H.out.h3 Try.underlying43 rfl (rec_info rfl) ?_) | ((with_reducible refine gate_op (u := .store 43 (.tmp 2) (.tmp 21)) rfl ?_); refine Same.wpList_store_row 43 (.tmp 2) (.tmp 21) rfl rfl rfl rfl H.out.h2 rfl (rec_info rfl) recs_one ?_; intro x9 h3_ h4_; have HF := Aside0.mk (HS.fill H.out h3_ h4_); have HB := Aside0.mk h3_; have HU := Aside0.mk h4_; clear h3_ h4_))
  have HE : Aside0 (written c0 = (c2.wordsS f2, ⟨f0, f1, f2, c2.wordsV f2⟩)) := ⟨by simp only [written]; rw [← HD.out, ← Ec2.out]⟩
  refine bodyPost_ret (results_cell_row rfl _ _ b2 43 _ (0, 0) _ rfl HB.out Try.underlying43 rfl (rec_info rfl)) rfl ⟨A5, n5, ?_, ?_, ?_, ?_⟩
  · rw [HE.out]
  · rw [HE.out]; exact RZ.out
  · rw [HE.out]; exact row_out2 RR.out EU.out UP.out (blk_lt EL3.out) HU.out (blk_lt EL.out)
  · rw [HE.out]; exact HF.out
def SumAt (w : World) (sb : Nat) (s : Int) : Prop := w.heap[sb]? = some (.cells #[.int .i64 s] 3 (0, 0))
structure UpdS (S : Nat → Prop) (w w' : World) : Prop where
  os : w'.os = w.os
  tape : w'.tape = w.tape
  output : w'.output = w.output
  kept : Kept w w' S
theorem UpdS.of_upd {g : Nat} {S : Nat → Prop} {w w' : World} (h : Upd g w w') (hs : S g) : UpdS S w w' := ⟨h.os, h.tape, h.output, h.kept.mono fun k e => e ▸ hs⟩
theorem UpdS.trans {S : Nat → Prop} {a b c : World} (h : UpdS S a b) (k : UpdS S b c) : UpdS S a c := ⟨k.os.trans h.os, k.tape.trans h.tape, k.output.trans h.output, h.kept.then_ k.kept (fun _ h2 => .inl h2)⟩
theorem UpdS.up1 {S : Nat → Prop} {a b c : World} {g : Nat} (h : UpdS S a b) (k : Up1 g b c) (hg : S g ∨ a.heap.size ≤ g) : UpdS S a c := ⟨k.os.trans h.os, k.tape.trans h.tape, k.output.trans h.output, h.kept.then_ k.kept (fun j e => e ▸ hg)⟩
theorem UpdS.below {S : Nat → Prop} {B : Nat} {w w' : World} (h : UpdS S w w') (hB : ∀ k, S k → B ≤ k) (hs : B ≤ w.heap.size) : Below B w w' := ⟨h.os, h.tape, h.output, h.kept.1, fun k hk => h.kept.2 k (by omega) (fun e => by have := hB k e; omega)⟩
structure HT (w0 : World) (g lo hi b2 b3 sb : Nat) (w : World) (c : Cu) (x2 x3 : Array Value) (s : Int) : Prop where
  cur : PAt lo hi w g c
  up : UpdS (fun k => k = g ∨ k = sb) w0 w
  gl : g < w0.heap.size ∧ sb < w0.heap.size ∧ w0.heap.size ≤ b2 ∧ w0.heap.size ≤ b3
  h2 : w.heap[b2]? = some (.cells x2 43 (0, 0))
  h3 : w.heap[b3]? = some (.cells x3 43 (0, 0))
  sm : SumAt w sb s
  ne : g ≠ sb ∧ (sb < lo ∨ hi ≤ sb)
section
variable {w0 w w' : World} {g lo hi b2 b3 sb : Nat} {c c' : Cu} {x2 x3 cx : Array Value} {s : Int}
theorem HS.sum (h : HS w0 g lo hi b2 b3 w c x2 x3) (hs : SumAt w sb s) (hl : sb < w0.heap.size) (hn : g ≠ sb ∧ (sb < lo ∨ hi ≤ sb)) (s1 : Int) : HT w0 g lo hi b2 b3 sb (w.setCell ⟨sb, 0, none⟩ (.int .i64 s1)) c x2 x3 s1 := by
  have u := up_set w sb 0 (.int .i64 s1)
  exact ⟨h.cur.on u.kept (fun k e => by rw [e]; exact hn.2) hn.1, (UpdS.of_upd h.up (.inl rfl)).up1 u (.inl (.inr rfl)), ⟨h.gl.1, hl, h.gl.2.1, h.gl.2.2⟩, blk_kept h.h2 u.kept (by have := h.gl; omega), blk_kept h.h3 u.kept (by have := h.gl; omega), blk_put hs 0 _ rfl, hn⟩
theorem HT.need (h : HT w0 g lo hi b2 b3 sb w c x2 x3 s) (ok : Bool) (f : Int) : Calls Try.prog 22 #[.pointer (some ⟨g, 0, none⟩), .bool ok, .int .i64 f] w fun en w' => en = .returned (.tuple #[]) ∧ HT w0 g lo hi b2 b3 sb w' (c.need ok f) x2 x3 s :=
  (p_need h.cur ok f).mono fun en w' ⟨e, p, u⟩ => ⟨e, p, h.up.trans (UpdS.of_upd u (.inl rfl)), h.gl, blk_kept h.h2 u.kept (by have := h.gl; omega), blk_kept h.h3 u.kept (by have := h.gl; omega), blk_kept h.sm u.kept (fun e => h.ne.1 e.symm), h.ne⟩
theorem HT.fill (h : HT w0 g lo hi b2 b3 sb w c x2 x3 s) (h1 : w'.heap[b2]? = some (.cells cx 43 (0, 0))) (u : Up1 b2 w w') : PAt lo hi w' g c ∧ SumAt w' sb s ∧ UpdS (fun k => k = g ∨ k = sb) w0 w' := by
  have hh := h.cur.1.1
  exact ⟨h.cur.on u.kept (fun k e => by have := h.gl; omega) (fun e => by have := h.gl; omega), blk_kept h.sm u.kept (by have := h.gl; omega), h.up.up1 u (.inr h.gl.2.2.1)⟩
end
theorem asked_any {lo hi g sb : Nat} {c0 : Cu} {s : Int} {w : World} (h : PAt lo hi w g c0) (hs : SumAt w sb s) (hn : g ≠ sb ∧ (sb < lo ∨ hi ≤ sb)) (hb : 0 ≤ s ∧ s ≤ 245) :
    Calls Try.prog 34 #[.pointer (some ⟨g, 0, none⟩), .pointer (some ⟨sb, 0, none⟩)] w fun en w' => en = .returned (.agg (recC (asked s c0).2.1.f0 (asked s c0).2.1.f1 (asked s c0).2.1.f2 (.slice none 0 0))) ∧ PAt lo hi w' g (asked s c0).1 ∧ SumAt w' sb (asked s c0).2.2 ∧ UpdS (fun k => k = g ∨ k = sb) w w' := by
  have HP := Aside0.mk h
  have HSM := Aside0.mk hs
  have HNE := Aside0.mk hn
  have HLT := Aside0.mk (blk_lt hs)
  obtain ⟨s0, s9⟩ := hb
  clear h hs hn
  obtain ⟨⟨c1, f0, f1, f2⟩, eh_⟩ : ∃ z, z = head c0 := ⟨_, rfl⟩
  have HD := Aside0.mk eh_
  have hb_ := head_bd HP.out.2
  rw [← eh_] at hb_
  obtain ⟨l2, h2⟩ : 0 ≤ f2 ∧ f2 < 65536 := hb_
  clear eh_
  go_enter Try.func34, Try.ntmps34
  go_upto_region 1 with (first | ((with_reducible refine gate_dst (N := 3) rfl ?_); refine ev_rec rfl rfl ?_; intro b2 w1 hg_ h1_ h2_; have H := Aside0.mk (HS.start HP.out h2_ hg_ h1_); have m1_ := Aside0.mk (show SumAt _ sb s from blk_below HSM.out h2_); clear HSM; have HSM := m1_; clear m1_; clear hg_ h1_ h2_))
  go_upto_region 2 with (first | (go_at_call 35; (with_reducible refine (head_let HD.out H.out.cur).mono ?_); rintro en x1 ⟨rfl, hp_, hu_⟩; have m1_ := Aside0.mk (show SumAt _ sb s from blk_kept HSM.out hu_.kept (fun e => HNE.out.1 e.symm)); clear HSM; have HSM := m1_; clear m1_; have m0_ := Aside0.mk (H.out.stp hp_ hu_); clear H hp_ hu_; have H := m0_; clear m0_) | ((with_reducible refine gate_dst (N := 4) rfl ?_); refine ev_rec rfl rfl ?_; intro b3 w2 hg_ h1_ h2_; obtain ⟨n0_, n1_⟩ := HS.new H.out h2_ hg_ h1_; have NE := Aside0.mk n1_; have m0_ := Aside0.mk n0_; clear H n0_ n1_; have H := m0_; clear m0_; have m1_ := Aside0.mk (show SumAt _ sb s from blk_below HSM.out h2_); clear HSM; have HSM := m1_; clear m1_; clear hg_ h1_ h2_) | ((with_reducible refine gate_op (u := .store 43 (.tmp 4) (.tmp 6)) rfl ?_); refine Same.wpList_store_row 43 (.tmp 4) (.tmp 6) rfl rfl rfl rfl H.out.h3 rfl (rec_info rfl) recs_one ?_; intro x9 h3_ h4_; have m0_ := Aside0.mk (HS.row3 H.out NE.out h3_ h4_); have m1_ := Aside0.mk (show SumAt _ sb s from blk_kept HSM.out h4_.kept (by have := H.out.gl; have := HLT.out; omega)); clear HSM; have HSM := m1_; clear m1_; clear H h3_ h4_; have H := m0_; clear m0_))
  have k2 : World.cell? _ _ = some (Value.int .u16 f2) := (HS.at3 H.out 2).1
  have ks : World.cell? _ ⟨sb, 0, none⟩ = some (Value.int .i64 s) := blk_cell HSM.out 0
  have fs : World.frozen? _ ⟨sb, 0, none⟩ = false := blk_frozen HSM.out 0
  go_upto_region 3 with (fail)
  have n0_ := Aside0.mk (HS.sum H.out HSM.out HLT.out HNE.out (s + (2 + 2 * f2)))
  clear H k2 ks fs HSM
  have H := n0_
  clear n0_
  have ks : World.cell? _ ⟨sb, 0, none⟩ = some (Value.int .i64 (s + (2 + 2 * f2))) := blk_cell H.out.sm 0
  go_upto_region 4 with (first | (go_at_call 22; (with_reducible refine (HT.need H.out (decide (s + (2 + 2 * f2) ≤ 245)) 5).mono ?_); rintro en x4 ⟨rfl, hp_⟩; obtain ⟨c2, ec_⟩ : ∃ z, z = c1.need (decide (s + (2 + 2 * f2) ≤ 245)) 5 := ⟨_, rfl⟩; rw [← ec_] at hp_; have Ec2 := Aside0.mk ec_; clear ec_; have n0_ := Aside0.mk hp_; clear H hp_ ks; have H := n0_; clear n0_))
  go_wp2_with (first | ((with_reducible refine gate_dst (N := 18) rfl ?_); refine wpList_load_row rfl 43 (.tmp 4) rfl b3 rfl 43 _ (0, 0) _ H.out.h3 Try.underlying43 rfl (rec_info rfl) ?_) | ((with_reducible refine gate_op (u := .store 43 (.tmp 3) (.tmp 18)) rfl ?_); refine Same.wpList_store_row 43 (.tmp 3) (.tmp 18) rfl rfl rfl rfl H.out.h2 rfl (rec_info rfl) recs_one ?_; intro x9 h3_ h4_; have HF := Aside0.mk (HT.fill H.out h3_ h4_); have HB := Aside0.mk h3_; have HU := Aside0.mk h4_; clear h3_ h4_))
  have HE : Aside0 (asked s c0 = (c2, ⟨f0, f1, f2, []⟩, s + (2 + 2 * f2))) := ⟨by simp only [asked]; rw [← HD.out, ← Ec2.out]⟩
  refine bodyPost_ret (results_cell_row rfl _ _ b2 43 _ (0, 0) _ rfl HB.out Try.underlying43 rfl (rec_info rfl)) rfl ⟨?_, ?_⟩
  · rw [HE.out]
  · rw [HE.out]; exact HF.out
end Go.Proofs.Ytdjeekpgcjcffaa.Fil
end
