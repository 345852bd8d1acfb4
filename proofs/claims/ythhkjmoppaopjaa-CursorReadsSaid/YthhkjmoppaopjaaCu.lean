/- The cursor as one value (what is left, whether it is short, what was wrong first), and one contract for each function of the program's cursor and of the reference's, whatever the cursor holds. Conditions: bytes, not more than a million. -/
import Derived.Test.YthhkjmoppaopjaaRCurW
set_option linter.unusedVariables false
set_option linter.unusedSimpArgs false
namespace Go.Proofs.Ythhkjmoppaopjaa.Cu
open Go.RowKit Go.Proofs.Ythhkjmoppaopjaa.E Go.Proofs.Ythhkjmoppaopjaa.Cur Go.Proofs.Ythhkjmoppaopjaa.RCur Go.Proofs.YthhkjmoppaopjaaW.PrintWords Go.Proofs.YthhkjmoppaopjaaW.PrintLast Go.Proofs.YthhkjmoppaopjaaW.PrintMore
/-- What a cursor is. -/
structure Cu where
  xs : List Int
  s : Bool
  e : Int
def Cu.good (c : Cu) : Prop := isBytes c.xs ∧ c.xs.length ≤ 1000000 ∧ (c.s = true → c.xs = [])
def Cu.fail (c : Cu) : Cu := ⟨[], true, fstE c.e 2⟩
def Cu.okB (c : Cu) (n : Int) : Bool := !c.s && decide (0 ≤ n) && decide (n ≤ (c.xs.length : Int))
def Cu.bytesV (c : Cu) (n : Int) : List Int := if c.okB n = true then c.xs.take n.toNat else []
def Cu.bytesS (c : Cu) (n : Int) : Cu := if c.okB n = true then ⟨c.xs.drop n.toNat, c.s, c.e⟩ else c.fail
def Cu.byteV (c : Cu) : Int := (c.bytesV 1).headD 0
def Cu.byteS (c : Cu) : Cu := c.bytesS 1
def Cu.need (c : Cu) (ok : Bool) (f : Int) : Cu := ⟨c.xs, c.s, if c.e = 0 ∧ ok = false then f else c.e⟩
def Cu.fin (c : Cu) : Cu := c.need (decide (c.xs = [])) 3
theorem Cu.good_fail (c : Cu) : c.fail.good := by
  refine ⟨?_, ?_, ?_⟩
  · intro x h; cases h
  · simp [Cu.fail]
  · intro _; rfl
theorem Cu.good_need {c : Cu} (h : c.good) (ok : Bool) (f : Int) : (c.need ok f).good := h
theorem Cu.okB_iff (c : Cu) (n : Int) : c.okB n = true ↔ c.s = false ∧ 0 ≤ n ∧ n ≤ (c.xs.length : Int) := by
  simp [Cu.okB, and_assoc]
theorem Cu.good_bytesS {c : Cu} (h : c.good) (n : Int) : (c.bytesS n).good := by
  unfold Cu.bytesS
  split
  · rename_i hk
    refine ⟨isBytes_drop h.1 _, by have := h.2.1; simp only [List.length_drop]; omega, fun hs => ?_⟩
    rw [((Cu.okB_iff c n).1 hk).1] at hs
    cases hs
  · exact Cu.good_fail c
theorem Cu.good_byteS {c : Cu} (h : c.good) : c.byteS.good := Cu.good_bytesS h 1
theorem Cu.bytes_bytesV {c : Cu} (h : c.good) (n : Int) : isBytes (c.bytesV n) := by
  unfold Cu.bytesV
  split
  · exact isBytes_take h.1 _
  · exact fun x h => by cases h
theorem Cu.byteV_bd {c : Cu} (h : c.good) : 0 ≤ c.byteV ∧ c.byteV < 256 := by
  have := Cu.bytes_bytesV h 1
  unfold Cu.byteV
  cases hv : c.bytesV 1 with
  | nil => simp
  | cons x l => rw [hv] at this; exact this x List.mem_cons_self
theorem Cu.not_okB {c : Cu} {n : Int} (h : ¬ c.okB n = true) : c.s = true ∨ n < 0 ∨ (c.xs.length : Int) < n := by
  rw [Cu.okB_iff] at h
  cases hs : c.s with
  | true => exact .inl rfl
  | false => exact .inr (by have : ¬ (0 ≤ n ∧ n ≤ (c.xs.length : Int)) := fun hh => h ⟨hs, hh.1, hh.2⟩; omega)
/-- The program's cursor holds c. -/
def PAt (lo hi : Nat) (w : World) (g : Nat) (c : Cu) : Prop := At lo hi w g c.xs c.s c.e ∧ c.good
theorem PAt.on {lo hi : Nat} {w w' : World} {g : Nat} {c : Cu} {S : Nat → Prop} (h : PAt lo hi w g c) (hk : Kept w w' S) (h1 : ∀ k, S k → k < lo ∨ hi ≤ k) (h2 : ¬ S g) : PAt lo hi w' g c := ⟨h.1.on hk h1 h2, h.2⟩
theorem PAt.below {lo hi : Nat} {w w' : World} {g : Nat} {c : Cu} (h : PAt lo hi w g c) (hb : Below w.heap.size w w') : PAt lo hi w' g c := ⟨h.1.below hb, h.2⟩
theorem p_new (A : Option Addr) (c : Nat) (l : List Int) (w : World) (hr : Kd.C (Kd.int .u8) w A l.length l) (hc : l.length ≤ c) (hs : l.length ≤ 1000000) (hb : isBytes l) :
    Calls Try.prog 9 #[.slice A l.length c] w fun e w' => ∃ g, e = .returned (.pointer (some ⟨g, 0, none⟩)) ∧ w.heap.size ≤ g ∧ PAt w.heap.size g w' g ⟨l, false, 0⟩ ∧ Below w.heap.size w w' ∧ w'.heap.size = g + 1 :=
  (new_any A c l w hr hc hs).mono fun e w' ⟨g, h1, h2, h3, h4, h5⟩ => ⟨g, h1, h2, ⟨h3, hb, hs, fun h => by cases h⟩, h4, h5⟩
theorem p_bytes {lo hi g : Nat} {c : Cu} {w : World} (h : PAt lo hi w g c) (n : Int) :
    Calls Try.prog 10 #[.pointer (some ⟨g, 0, none⟩), .int .i64 n] w fun en w' => ∃ A' c', en = .returned (.slice A' (c.bytesV n).length c') ∧ (c.bytesV n).length ≤ c' ∧ Row w.heap.size w'.heap.size w' A' (c.bytesV n) ∧ PAt lo hi w' g (c.bytesS n) ∧ Upd g w w' := by
  have hg := Cu.good_bytesS h.2 n
  unfold Cu.bytesV PAt
  unfold Cu.bytesS at hg ⊢
  by_cases hk : c.okB n = true
  · rw [if_pos hk] at hg ⊢
    rw [if_pos hk]
    obtain ⟨h1, h2, h3⟩ := (Cu.okB_iff c n).1 hk
    obtain ⟨m, rfl⟩ := Int.eq_ofNat_of_zero_le h2
    have ha := h.1
    rw [h1] at ha
    refine (bytes_ok lo hi g c.xs c.e m w ha (by omega) h.2.2.1).mono ?_
    rintro en w' ⟨A', c', rfl, b1, b2, b3, b4⟩
    refine ⟨A', c', rfl, b1, b2, ⟨?_, hg⟩, b4⟩
    show At lo hi w' g _ c.s c.e
    rw [h1]
    exact b3
  · rw [if_neg hk] at hg ⊢
    rw [if_neg hk]
    refine (Cur.bytes_short lo hi g c.xs c.s c.e n w h.1 (Cu.not_okB hk)).mono ?_
    rintro en w' ⟨rfl, b3, b4⟩
    exact ⟨none, 0, rfl, Nat.le_refl _, Row.nil _ _ _, ⟨b3, hg⟩, b4⟩
theorem one_of {c : Cu} (h : c.okB 1 = true) : ∃ x l, c.xs = x :: l := by
  obtain ⟨_, _, h3⟩ := (Cu.okB_iff c 1).1 h
  cases hx : c.xs with
  | nil => rw [hx] at h3; simp at h3
  | cons x l => exact ⟨x, l, rfl⟩
theorem p_byte {lo hi g : Nat} {c : Cu} {w : World} (h : PAt lo hi w g c) :
    Calls Try.prog 19 #[.pointer (some ⟨g, 0, none⟩)] w fun en w' => en = .returned (.int .u8 c.byteV) ∧ PAt lo hi w' g c.byteS ∧ Upd g w w' := by
  have hg := Cu.good_byteS h.2
  unfold Cu.byteV Cu.bytesV PAt
  unfold Cu.byteS Cu.bytesS at hg ⊢
  by_cases hk : c.okB 1 = true
  · rw [if_pos hk] at hg ⊢
    rw [if_pos hk]
    obtain ⟨x, l, hx⟩ := one_of hk
    have h1 := ((Cu.okB_iff c 1).1 hk).1
    have ha := h.1
    have hl := h.2.2.1
    rw [h1, hx] at ha
    rw [hx] at hl
    refine (byte_ok lo hi g x l c.e w ha hl).mono ?_
    rintro en w' ⟨rfl, b3, b4⟩
    refine ⟨by rw [hx]; rfl, ⟨?_, hg⟩, b4⟩
    show At lo hi w' g (c.xs.drop 1) c.s c.e
    rw [h1, hx]
    exact b3
  · rw [if_neg hk] at hg ⊢
    rw [if_neg hk]
    refine (byte_short lo hi g c.xs c.s c.e w h.1 ?_).mono ?_
    · rcases Cu.not_okB hk with h | h | h
      · exact .inl h
      · omega
      · exact .inr (List.eq_nil_of_length_eq_zero (by omega))
    rintro en w' ⟨rfl, b3, b4⟩
    exact ⟨rfl, ⟨b3, hg⟩, b4⟩
theorem p_need {lo hi g : Nat} {c : Cu} {w : World} (h : PAt lo hi w g c) (ok : Bool) (f : Int) :
    Calls Try.prog 17 #[.pointer (some ⟨g, 0, none⟩), .bool ok, .int .i64 f] w fun en w' => en = .returned (.tuple #[]) ∧ PAt lo hi w' g (c.need ok f) ∧ Upd g w w' :=
  (Cur.need_any lo hi g c.xs c.s c.e ok f w h.1).mono fun en w' ⟨h1, h2, h3⟩ => ⟨h1, ⟨h2, h.2⟩, h3⟩
theorem p_left {lo hi g : Nat} {c : Cu} {w : World} (h : PAt lo hi w g c) :
    Calls Try.prog 13 #[.pointer (some ⟨g, 0, none⟩)] w fun en w' => en = .returned (.int .i64 c.xs.length) ∧ w' = w := Cur.left_any lo hi g c.xs c.s c.e w h.1
theorem p_short {lo hi g : Nat} {c : Cu} {w : World} (h : PAt lo hi w g c) :
    Calls Try.prog 12 #[.pointer (some ⟨g, 0, none⟩)] w fun en w' => en = .returned (.bool c.s) ∧ w' = w := Cur.short_any lo hi g c.xs c.s c.e w h.1
theorem p_err {lo hi g : Nat} {c : Cu} {w : World} (h : PAt lo hi w g c) :
    Calls Try.prog 16 #[.pointer (some ⟨g, 0, none⟩)] w fun en w' => en = .returned (.int .i64 c.e) ∧ w' = w := Cur.err_any lo hi g c.xs c.s c.e w h.1
theorem fin_eq (c : Cu) : c.fin = ⟨c.xs, c.s, if c.xs = [] then c.e else fstE c.e 3⟩ := by
  unfold Cu.fin Cu.need fstE
  by_cases hx : c.xs = [] <;> simp [hx]
theorem p_end {lo hi g : Nat} {c : Cu} {w : World} (h : PAt lo hi w g c) :
    Calls Try.prog 18 #[.pointer (some ⟨g, 0, none⟩)] w fun en w' => en = .returned (.tuple #[]) ∧ PAt lo hi w' g c.fin ∧ Upd g w w' := by
  have hg : c.fin.good := Cu.good_need h.2 _ _
  rw [fin_eq] at hg ⊢
  exact (Cur.end_any lo hi g c.xs c.s c.e w h.1).mono fun en w' ⟨h1, h2, h3⟩ => ⟨h1, ⟨h2, hg⟩, h3⟩
/-- The reference's cursor holds c. -/
def QAt (hi : Nat) (w : World) (g : Nat) (c : Cu) : Prop := ∃ all n, RAt hi w g all n c.s c.e ∧ c.xs = all.drop n ∧ isBytes all ∧ (c.s = true → n = all.length)
theorem QAt.on {hi : Nat} {w w' : World} {g : Nat} {c : Cu} {S : Nat → Prop} (h : QAt hi w g c) (hk : Kept w w' S) (h1 : ∀ k, S k → hi ≤ k) (h2 : ¬ S g) : QAt hi w' g c := by
  obtain ⟨all, n, a1, a2, a3, a4⟩ := h
  exact ⟨all, n, a1.on hk h1 h2, a2, a3, a4⟩
theorem QAt.good {hi : Nat} {w : World} {g : Nat} {c : Cu} (h : QAt hi w g c) : c.good := by
  obtain ⟨all, n, a1, a2, a3, a4⟩ := h
  have := a1.2.2.1
  refine ⟨by rw [a2]; exact isBytes_drop a3 _, by rw [a2, List.length_drop]; omega, fun hs => ?_⟩
  rw [a2, a4 hs, List.drop_length]
theorem QAt.cells {hi : Nat} {w : World} {g : Nat} {c : Cu} (h : QAt hi w g c) : w.cell? ⟨g, 2, none⟩ = some (.bool c.s) ∧ w.cell? ⟨g, 3, none⟩ = some (.int .i64 c.e) := by
  obtain ⟨all, n, ⟨_, _, _, A, c', a1, _⟩, _⟩ := h
  exact ⟨(cells4 a1).1.2.2.1, (cells4 a1).1.2.2.2⟩
theorem QAt.lt {hi : Nat} {w : World} {g : Nat} {c : Cu} (h : QAt hi w g c) : g < w.heap.size := by
  obtain ⟨all, n, a1, _⟩ := h
  exact a1.lt
theorem QAt.hi {hi : Nat} {w : World} {g : Nat} {c : Cu} (h : QAt hi w g c) : hi ≤ g := by
  obtain ⟨all, n, a1, _⟩ := h
  exact a1.1
theorem q_new {w : World} {A : Option Addr} {c : Nat} {l : List Int} (hr : Row 0 w.heap.size w A l) (hc : l.length ≤ c) (hs : l.length ≤ 1000000) (hb : isBytes l) {W : World} (hk : Kept w W (fun _ => False)) :
    QAt w.heap.size (W.alloc (.cells #[.slice A l.length c, .int .i64 0, .bool false, .int .i64 0] 45)) W.heap.size ⟨l, false, 0⟩ :=
  ⟨l, 0, ⟨hk.1, Nat.zero_le _, hs, A, c, blk_new _ _, hc, hr.on ((hk.alloc _).mono fun _ h => h.elim)⟩, rfl, hb, fun h => by cases h⟩
theorem q_left {hi g : Nat} {c : Cu} {w : World} (h : QAt hi w g c) :
    Calls Try.prog 27 #[.pointer (some ⟨g, 0, none⟩)] w fun en w' => en = .returned (.int .i64 c.xs.length) ∧ QAt hi w' g c ∧ Upd g w w' := by
  obtain ⟨all, n, a1, a2, a3, a4⟩ := h
  have hn := a1.2.1
  have e1 : ((all.length : Int) - n) = (c.xs.length : Int) := by rw [a2, List.length_drop]; omega
  refine (RCur.left_any hi g all n c.s c.e w a1).mono ?_
  rintro en w' ⟨rfl, b1, b2⟩
  exact ⟨by rw [e1], ⟨all, n, b1, a2, a3, a4⟩, b2⟩
theorem q_need {hi g : Nat} {c : Cu} {w : World} (h : QAt hi w g c) (ok : Bool) (f : Int) :
    Calls Try.prog 23 #[.pointer (some ⟨g, 0, none⟩), .bool ok, .int .i64 f] w fun en w' => en = .returned (.tuple #[]) ∧ QAt hi w' g (c.need ok f) ∧ Upd g w w' := by
  obtain ⟨all, n, a1, a2, a3, a4⟩ := h
  cases ok with
  | true =>
    refine (RCur.need_met hi g all n c.s c.e w a1 f).mono ?_
    rintro en w' ⟨rfl, b1, b2⟩
    refine ⟨rfl, ⟨all, n, ?_, a2, a3, a4⟩, b2⟩
    simpa [Cu.need] using b1
  | false =>
    refine (RCur.need_any hi g all n c.s c.e w a1 f).mono ?_
    rintro en w' ⟨rfl, b1, b2⟩
    refine ⟨rfl, ⟨all, n, ?_, a2, a3, a4⟩, b2⟩
    simpa [Cu.need, fstE] using b1
theorem q_bytes {hi g : Nat} {c : Cu} {w : World} (h : QAt hi w g c) (n : Int) :
    Calls Try.prog 22 #[.pointer (some ⟨g, 0, none⟩), .int .i64 n] w fun en w' => ∃ A' c', en = .returned (.slice A' (c.bytesV n).length c') ∧ (c.bytesV n).length ≤ c' ∧ Row 0 hi w' A' (c.bytesV n) ∧ QAt hi w' g (c.bytesS n) ∧ Upd g w w' := by
  obtain ⟨all, k, a1, a2, a3, a4⟩ := h
  have hn := a1.2.1
  have hl : c.xs.length = all.length - k := by rw [a2, List.length_drop]
  unfold Cu.bytesV Cu.bytesS
  by_cases hk : c.okB n = true
  · rw [if_pos hk, if_pos hk]
    obtain ⟨h1, h2, h3⟩ := (Cu.okB_iff c n).1 hk
    obtain ⟨m, rfl⟩ := Int.eq_ofNat_of_zero_le h2
    have ha := a1
    rw [h1] at ha
    refine (RCur.bytes_ok hi g all k c.e m w ha (by omega)).mono ?_
    rintro en w' ⟨A', c', rfl, b1, b2, b3, b4⟩
    rw [← a2] at b1 b2
    refine ⟨A', c', by rw [a2]; rfl, b1, b2, ⟨all, k + m, ?_, ?_, a3, ?_⟩, b4⟩
    · show RAt hi w' g all (k + m) c.s c.e
      rw [h1]
      exact b3
    · show c.xs.drop m = _
      rw [a2, List.drop_drop]
    · intro hs
      rw [show c.s = true from hs] at h1
      cases h1
  · rw [if_neg hk, if_neg hk]
    refine (RCur.bytes_short hi g all k c.s c.e n w a1 ?_).mono ?_
    · rcases Cu.not_okB hk with h | h | h
      · exact .inl h
      · exact .inr (.inl h)
      · exact .inr (.inr (by omega))
    rintro en w' ⟨rfl, b3, b4⟩
    exact ⟨none, 0, rfl, Nat.le_refl _, Row.nil _ _ _, ⟨all, all.length, b3, (List.drop_length).symm, a3, fun _ => rfl⟩, b4⟩
theorem q_byte {hi g : Nat} {c : Cu} {w : World} (h : QAt hi w g c) :
    Calls Try.prog 20 #[.pointer (some ⟨g, 0, none⟩)] w fun en w' => en = .returned (.int .u8 c.byteV) ∧ QAt hi w' g c.byteS ∧ Upd g w w' := by
  obtain ⟨all, k, a1, a2, a3, a4⟩ := h
  have hn := a1.2.1
  have hl : c.xs.length = all.length - k := by rw [a2, List.length_drop]
  unfold Cu.byteV Cu.byteS Cu.bytesV Cu.bytesS
  by_cases hk : c.okB 1 = true
  · rw [if_pos hk, if_pos hk]
    obtain ⟨h1, h2, h3⟩ := (Cu.okB_iff c 1).1 hk
    have ha := a1
    rw [h1] at ha
    refine (RCur.byte_ok hi g all k c.e w ha (by omega)).mono ?_
    rintro en w' ⟨rfl, b3, b4⟩
    have e1 : all.getD k 0 = (c.xs.take (1 : Int).toNat).headD 0 := by
      rw [a2, drop_cons (show k < all.length by omega) 0]
      rfl
    refine ⟨by rw [e1], ⟨all, k + 1, ?_, ?_, a3, ?_⟩, b4⟩
    · show RAt hi w' g all (k + 1) c.s c.e
      rw [h1]
      exact b3
    · show c.xs.drop 1 = _
      rw [a2, List.drop_drop]
    · intro hs
      rw [show c.s = true from hs] at h1
      cases h1
  · rw [if_neg hk, if_neg hk]
    refine (RCur.byte_short hi g all k c.s c.e w a1 ?_).mono ?_
    · rcases Cu.not_okB hk with h | h | h
      · exact .inl h
      · omega
      · exact .inr (by omega)
    rintro en w' ⟨rfl, b3, b4⟩
    exact ⟨rfl, ⟨all, all.length, b3, (List.drop_length).symm, a3, fun _ => rfl⟩, b4⟩
theorem q_end {hi g : Nat} {c : Cu} {w : World} (h : QAt hi w g c) :
    Calls Try.prog 24 #[.pointer (some ⟨g, 0, none⟩)] w fun en w' => en = .returned (.tuple #[]) ∧ QAt hi w' g c.fin ∧ Upd g w w' := by
  obtain ⟨all, k, a1, a2, a3, a4⟩ := h
  have hn := a1.2.1
  have e1 : (c.xs = []) = (k = all.length) := by
    rw [a2]
    exact propext ⟨fun h => by have := congrArg List.length h; rw [List.length_drop] at this; simp at this; omega, fun h => by rw [h, List.drop_length]⟩
  rw [fin_eq]
  refine (RCur.end_any hi g all k c.s c.e w a1).mono ?_
  rintro en w' ⟨rfl, b1, b2⟩
  refine ⟨rfl, ⟨all, k, ?_, a2, a3, a4⟩, b2⟩
  show RAt hi w' g all k c.s (if c.xs = [] then c.e else fstE c.e 3)
  by_cases hc : k = all.length
  · rw [if_pos (e1.mpr hc)]
    rw [if_pos hc] at b1
    exact b1
  · rw [if_neg (fun hh => hc (e1.mp hh))]
    rw [if_neg hc] at b1
    exact b1
def Cu.okW (c : Cu) (n : Int) : Bool := !c.s && decide (0 ≤ n) && decide (2 * n ≤ (c.xs.length : Int))
def Cu.wordsV (c : Cu) (n : Int) : List Int := if c.okW n = true then Take.words (c.xs.take (2 * n.toNat)) else []
def Cu.wordsS (c : Cu) (n : Int) : Cu := if c.okW n = true then ⟨c.xs.drop (2 * n.toNat), c.s, c.e⟩ else c.fail
theorem Cu.okW_iff (c : Cu) (n : Int) : c.okW n = true ↔ c.s = false ∧ 0 ≤ n ∧ 2 * n ≤ (c.xs.length : Int) := by
  simp [Cu.okW, and_assoc]
theorem Cu.good_wordsS {c : Cu} (h : c.good) (n : Int) : (c.wordsS n).good := by
  unfold Cu.wordsS
  split
  · rename_i hk
    refine ⟨isBytes_drop h.1 _, by have := h.2.1; simp only [List.length_drop]; omega, fun hs => ?_⟩
    rw [((Cu.okW_iff c n).1 hk).1] at hs
    cases hs
  · exact Cu.good_fail c
theorem Cu.not_okW {c : Cu} {n : Int} (h : ¬ c.okW n = true) : c.s = true ∨ n < 0 ∨ (c.xs.length : Int) < 2 * n := by
  rw [Cu.okW_iff] at h
  cases hs : c.s with
  | true => exact .inl rfl
  | false => exact .inr (by have : ¬ (0 ≤ n ∧ 2 * n ≤ (c.xs.length : Int)) := fun hh => h ⟨hs, hh.1, hh.2⟩; omega)
theorem row16_nil (A : Option Addr) (lo hi : Nat) (w : World) : Row16 lo hi w A [] := fun W' _ => ⟨rfl, Nat.zero_le _, fun h => absurd h (Nat.lt_irrefl 0)⟩
theorem p_words {lo hi g : Nat} {c : Cu} {w : World} (h : PAt lo hi w g c) (n : Int) :
    Calls Try.prog 14 #[.pointer (some ⟨g, 0, none⟩), .int .i64 n] w fun en w' => ∃ A' c', en = .returned (.slice A' (c.wordsV n).length c') ∧ (c.wordsV n).length ≤ c' ∧ Row16 w.heap.size w'.heap.size w' A' (c.wordsV n) ∧ PAt lo hi w' g (c.wordsS n) ∧ Upd g w w' := by
  have hg := Cu.good_wordsS h.2 n
  unfold Cu.wordsV PAt
  unfold Cu.wordsS at hg ⊢
  by_cases hk : c.okW n = true
  · rw [if_pos hk] at hg ⊢
    rw [if_pos hk]
    obtain ⟨h1, h2, h3⟩ := (Cu.okW_iff c n).1 hk
    obtain ⟨m, rfl⟩ := Int.eq_ofNat_of_zero_le h2
    have ha := h.1
    rw [h1] at ha
    refine (Cur.words_ok lo hi g c.xs c.e m w ha (by omega) h.2.2.1 h.2.1).mono ?_
    rintro en w' ⟨A', c', rfl, b1, b2, b3, b4⟩
    refine ⟨A', c', rfl, b1, b2, ⟨?_, hg⟩, b4⟩
    show At lo hi w' g _ c.s c.e
    rw [h1]
    exact b3
  · rw [if_neg hk] at hg ⊢
    rw [if_neg hk]
    refine (Cur.words_short lo hi g c.xs c.s c.e n w h.1 h.2.2.1 (Cu.not_okW hk)).mono ?_
    rintro en w' ⟨A', c', rfl, b3, b4⟩
    exact ⟨A', c', rfl, Nat.zero_le _, row16_nil _ _ _ _, ⟨b3, hg⟩, b4⟩
theorem q_words {hi g : Nat} {c : Cu} {w : World} (h : QAt hi w g c) (n : Int) :
    Calls Try.prog 26 #[.pointer (some ⟨g, 0, none⟩), .int .i64 n] w fun en w' => ∃ A' c', en = .returned (.slice A' (c.wordsV n).length c') ∧ (c.wordsV n).length ≤ c' ∧ Row16 w.heap.size w'.heap.size w' A' (c.wordsV n) ∧ QAt hi w' g (c.wordsS n) ∧ Upd g w w' := by
  obtain ⟨all, k, a1, a2, a3, a4⟩ := h
  have hn := a1.2.1
  have hl : c.xs.length = all.length - k := by rw [a2, List.length_drop]
  unfold Cu.wordsV Cu.wordsS
  by_cases hk : c.okW n = true
  · rw [if_pos hk, if_pos hk]
    obtain ⟨h1, h2, h3⟩ := (Cu.okW_iff c n).1 hk
    obtain ⟨m, rfl⟩ := Int.eq_ofNat_of_zero_le h2
    have ha := a1
    rw [h1] at ha
    refine (RCur.words_ok hi g all k c.e m w ha (by omega) a3).mono ?_
    rintro en w' ⟨A', c', rfl, b1, b2, b3, b4⟩
    rw [← a2] at b1 b2
    refine ⟨A', c', by rw [a2]; rfl, b1, b2, ⟨all, k + 2 * m, ?_, ?_, a3, ?_⟩, b4⟩
    · show RAt hi w' g all (k + 2 * m) c.s c.e
      rw [h1]
      exact b3
    · show c.xs.drop (2 * m) = _
      rw [a2, List.drop_drop]
    · intro hs
      rw [show c.s = true from hs] at h1
      cases h1
  · rw [if_neg hk, if_neg hk]
    refine (RCur.words_short hi g all k c.s c.e n w a1 ?_).mono ?_
    · rcases Cu.not_okW hk with h | h | h
      · exact .inl h
      · exact .inr (.inl h)
      · exact .inr (.inr (by omega))
    rintro en w' ⟨A', c', rfl, b3, b4⟩
    exact ⟨A', c', rfl, Nat.zero_le _, row16_nil _ _ _ _, ⟨all, all.length, b3, (List.drop_length).symm, a3, fun _ => rfl⟩, b4⟩
theorem Take.wordsBd {l : List Int} (h : isBytes l) : ∀ x ∈ Take.words l, 0 ≤ x ∧ x < 65536 := by
  unfold Take.words Take.pre
  split
  · intro x hx
    obtain ⟨j, _, rfl⟩ := List.mem_map.1 hx
    have h1 := isBytes_rd h (2 * j)
    have h2 := isBytes_rd h (2 * j + 1)
    unfold Take.wordAt
    omega
  · intro x hx
    cases hx
theorem Cu.wordsV_bd {c : Cu} (h : c.good) (n : Int) : ∀ x ∈ c.wordsV n, 0 ≤ x ∧ x < 65536 := by
  unfold Cu.wordsV
  split
  · exact Take.wordsBd (isBytes_take h.1 _)
  · intro x hx
    cases hx
def Cu.wordV (c : Cu) : Int := (c.wordsV 1).headD 0
def Cu.wordS (c : Cu) : Cu := c.wordsS 1
theorem Cu.good_wordS {c : Cu} (h : c.good) : c.wordS.good := Cu.good_wordsS h 1
theorem Cu.wordV_bd {c : Cu} (h : c.good) : 0 ≤ c.wordV ∧ c.wordV < 65536 := by
  have := Cu.wordsV_bd h 1
  unfold Cu.wordV
  cases hv : c.wordsV 1 with
  | nil => simp
  | cons x l => rw [hv] at this; exact this x List.mem_cons_self
theorem two_of {c : Cu} (h : c.okW 1 = true) : ∃ x y l, c.xs = x :: y :: l := by
  obtain ⟨_, _, h3⟩ := (Cu.okW_iff c 1).1 h
  match hx : c.xs with
  | [] => rw [hx] at h3; simp at h3
  | [x] => rw [hx] at h3; simp at h3
  | x :: y :: l => exact ⟨x, y, l, rfl⟩
theorem p_word {lo hi g : Nat} {c : Cu} {w : World} (h : PAt lo hi w g c) :
    Calls Try.prog 15 #[.pointer (some ⟨g, 0, none⟩)] w fun en w' => en = .returned (.int .u16 c.wordV) ∧ PAt lo hi w' g c.wordS ∧ Upd g w w' := by
  have hg := Cu.good_wordS h.2
  unfold Cu.wordV Cu.wordsV PAt
  unfold Cu.wordS Cu.wordsS at hg ⊢
  by_cases hk : c.okW 1 = true
  · rw [if_pos hk] at hg ⊢
    rw [if_pos hk]
    obtain ⟨x, y, l, hx⟩ := two_of hk
    have h1 := ((Cu.okW_iff c 1).1 hk).1
    have ha := h.1
    have hl := h.2.2.1
    have hbb := h.2.1
    rw [h1, hx] at ha
    rw [hx] at hl hbb
    refine (Cur.word_ok lo hi g x y l c.e w ha hl hbb).mono ?_
    rintro en w' ⟨rfl, b3, b4⟩
    refine ⟨by rw [hx, show (2 * (1 : Int).toNat) = 2 * 1 from rfl, words_two]; rfl, ⟨?_, hg⟩, b4⟩
    show At lo hi w' g (c.xs.drop 2) c.s c.e
    rw [h1, hx]
    exact b3
  · rw [if_neg hk] at hg ⊢
    rw [if_neg hk]
    refine (Cur.word_short lo hi g c.xs c.s c.e w h.1 h.2.2.1 ?_).mono ?_
    · rcases Cu.not_okW hk with h | h | h
      · exact .inl h
      · omega
      · exact .inr (by omega)
    rintro en w' ⟨rfl, b3, b4⟩
    exact ⟨rfl, ⟨b3, hg⟩, b4⟩
theorem q_word {hi g : Nat} {c : Cu} {w : World} (h : QAt hi w g c) :
    Calls Try.prog 21 #[.pointer (some ⟨g, 0, none⟩)] w fun en w' => en = .returned (.int .u16 c.wordV) ∧ QAt hi w' g c.wordS ∧ Upd g w w' := by
  obtain ⟨all, k, a1, a2, a3, a4⟩ := h
  have hn := a1.2.1
  have hl : c.xs.length = all.length - k := by rw [a2, List.length_drop]
  unfold Cu.wordV Cu.wordS Cu.wordsV Cu.wordsS
  by_cases hk : c.okW 1 = true
  · rw [if_pos hk, if_pos hk]
    obtain ⟨h1, h2, h3⟩ := (Cu.okW_iff c 1).1 hk
    have ha := a1
    rw [h1] at ha
    refine (RCur.word_ok hi g all k c.e w ha (by omega) a3).mono ?_
    rintro en w' ⟨rfl, b3, b4⟩
    have e1 : (all.getD k 0 * 256 + all.getD (k + 1) 0) = (Take.words (c.xs.take (2 * (1 : Int).toNat))).headD 0 := by
      rw [a2, drop_cons (show k < all.length by omega) 0, drop_cons (show k + 1 < all.length by omega) 0, show (2 * (1 : Int).toNat) = 2 * 1 from rfl, words_two]
      rfl
    refine ⟨by rw [e1], ⟨all, k + 2, ?_, ?_, a3, ?_⟩, b4⟩
    · show RAt hi w' g all (k + 2) c.s c.e
      rw [h1]
      exact b3
    · show c.xs.drop 2 = _
      rw [a2, List.drop_drop]
    · intro hs
      rw [show c.s = true from hs] at h1
      cases h1
  · rw [if_neg hk, if_neg hk]
    refine (RCur.word_short hi g all k c.s c.e w a1 ?_).mono ?_
    · rcases Cu.not_okW hk with h | h | h
      · exact .inl h
      · omega
      · exact .inr (by omega)
    rintro en w' ⟨rfl, b3, b4⟩
    exact ⟨rfl, ⟨all, all.length, b3, (List.drop_length).symm, a3, fun _ => rfl⟩, b4⟩
end Go.Proofs.Ythhkjmoppaopjaa.Cu
