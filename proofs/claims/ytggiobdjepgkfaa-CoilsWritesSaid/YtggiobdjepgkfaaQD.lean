/- What the laws of this chapter rest on, part 4: what the functions that they reach answer, each shown once. Conditions: what each theorem states. (Merged by a program of this session, wip/tools/merge.py, out of its own texts and of the words that the kit's print wrote for this seat, cut to those that are used.) -/
import Derived.Test.YtggiobdjepgkfaaQC
set_option linter.unusedVariables false
set_option linter.unusedSimpArgs false
set_option maxHeartbeats 16000000
set_option maxRecDepth 100000
section
namespace Go.Proofs.Ytggiobdjepgkfaa.R05
open Go.RowKit Go.Proofs.Ytggiobdjepgkfaa.P Go.Proofs.Ytggiobdjepgkfaa.E Go.Proofs.Ytggiobdjepgkfaa.Bits Go.Proofs.YtggiobdjepgkfaaW.PrintWords Go.Proofs.YtggiobdjepgkfaaW.PrintLast Go.Proofs.YtggiobdjepgkfaaW.PrintMore
theorem many_int (n : Int) (h0 : -9223372036854775808 ≤ n) (h1 : n < 9223372036854775808) : busbarref05_Many.f n = some (bytesN n.toNat : Int) := by
  unfold busbarref05_Many.f bytesN
  by_cases h : n < 1
  · rw [if_pos h]
    have : n.toNat = 0 := by omega
    rw [this]; rfl
  · rw [if_neg h]
    have c2 : 0 ≤ n := by omega
    have e1 : -9223372036854775808 ≤ n / 8 := by omega
    have e2 : n / 8 < 9223372036854775808 := by omega
    have e3 : -9223372036854775808 ≤ n / 8 + 1 := by omega
    have e4 : n / 8 + 1 < 9223372036854775808 := by omega
    have f1 : n % 8 > 0 → n / 8 + 1 = (((n.toNat + 7) / 8 : Nat) : Int) := fun h => by omega
    have f2 : ¬ n % 8 > 0 → n / 8 = (((n.toNat + 7) / 8 : Nat) : Int) := fun h => by omega
    rw [tdiv_id c2, tmod_id c2, wrap64_id e1 e2, wrap64_id e3 e4]
    by_cases hm : n % 8 > 0
    · rw [if_pos hm, f1 hm]
    · rw [if_neg hm, f2 hm]
def byteP (l : List Bool) (j : Nat) : Nat → Nat
  | 0 => 0
  | t + 1 => byteP l j t + 2 ^ t * (l.getD (8 * j + t) false).toNat
theorem byteP_all (l : List Bool) (j : Nat) : byteP l j 8 = byteN l j := by simp [byteP, byteN]
theorem byteP_lt (l : List Bool) (j t : Nat) : byteP l j t < 2 ^ t := by
  induction t with
  | zero => simp [byteP]
  | succ t ih =>
    have := toNat_le (l.getD (8 * j + t) false)
    simp only [byteP, Nat.pow_succ]
    have : 2 ^ t * (l.getD (8 * j + t) false).toNat ≤ 2 ^ t * 1 := Nat.mul_le_mul_left _ this
    omega
theorem byteP_over (l : List Bool) (j t d : Nat) (h : l.length ≤ 8 * j + t) : byteP l j (t + d) = byteP l j t := by
  induction d with
  | zero => rfl
  | succ d ih =>
    rw [← Nat.add_assoc]
    simp only [byteP]
    rw [ih, List.getD_eq_getElem?_getD, List.getElem?_eq_none (by omega)]; simp
def first (l : List Bool) (j : Nat) : List Int := (List.range j).map fun i => (byteN l i : Int)
theorem first_succ (l : List Bool) (j : Nat) : first l (j + 1) = first l j ++ [(byteN l j : Int)] := by unfold first; rw [List.range_succ, List.map_append]; rfl
theorem inner (l : List Bool) (hl : (l.length : Int) < 9223372036854775000) (out : List Int) (ho : out.length < 140737488355328) (j : Nat) (r : List Int) (hj : 8 * j < l.length)
    (hr : ∃ K, ∀ k, K ≤ k → busbarref05_Pack.l0 k l (out ++ [(byteN l j : Int)]) ((8 * (j + 1) : Nat) : Int) = some r) (d : Nat) : ∀ t, t + d = 8 →
    Ev (fun k => busbarref05_Pack.l1 k l out ((8 * j : Nat) : Int) (byteP l j t : Int) ((2 ^ t : Nat) : Int) ((8 * j + t : Nat) : Int)) r := by
  have hend : ∀ t, byteP l j t = byteN l j → (hc : ∀ k, busbarref05_Pack.l1 (k + 1) l out ((8 * j : Nat) : Int) (byteP l j t : Int) ((2 ^ t : Nat) : Int) ((8 * j + t : Nat) : Int) = busbarref05_Pack.j2 k l out ((8 * j : Nat) : Int) (byteP l j t : Int) ((2 ^ t : Nat) : Int) ((8 * j + t : Nat) : Int) false) → Ev (fun k => busbarref05_Pack.l1 k l out ((8 * j : Nat) : Int) (byteP l j t : Int) ((2 ^ t : Nat) : Int) ((8 * j + t : Nat) : Int)) r := by
    intro t hb hc
    refine Ev.step hc ?_
    have hb2 := byteN_lt l j
    have c1 : (byteN l j : Int) % 256 = (byteN l j : Int) := by omega
    have d3 : ((8 * j : Nat) : Int) + 8 = ((8 * (j + 1) : Nat) : Int) := by omega
    have e3 : ((8 * (j + 1) : Nat) : Int) < 9223372036854775808 := by omega
    have e4 : -9223372036854775808 ≤ ((8 * (j + 1) : Nat) : Int) := by omega
    refine Ev.step (f := fun k => busbarref05_Pack.l0 k l (out ++ [(byteN l j : Int)]) ((8 * (j + 1) : Nat) : Int)) (fun k => ?_) hr
    simp only [busbarref05_Pack.j2]
    rw [if_neg (show ¬ (false = true) by simp), if_pos ho, hb, c1, d3, wrap64_id e4 e3]
  induction d with
  | zero =>
    intro t ht
    obtain rfl : t = 8 := by omega
    refine hend 8 (byteP_all l j) (fun k => ?_)
    have d3 : ((8 * j : Nat) : Int) + 8 = ((8 * j + 8 : Nat) : Int) := by omega
    have e3 : ((8 * j + 8 : Nat) : Int) < 9223372036854775808 := by omega
    have e4 : -9223372036854775808 ≤ ((8 * j + 8 : Nat) : Int) := by omega
    simp only [busbarref05_Pack.l1]
    by_cases c : ((8 * j + 8 : Nat) : Int) < (l.length : Int)
    · rw [if_pos c, d3, wrap64_id e4 e3, decide_eq_false (Int.lt_irrefl _)]
    · rw [if_neg c]
  | succ d ih =>
    intro t ht
    have d3 : ((8 * j : Nat) : Int) + 8 = ((8 * j + 8 : Nat) : Int) := by omega
    have e3 : ((8 * j + 8 : Nat) : Int) < 9223372036854775808 := by omega
    have e4 : -9223372036854775808 ≤ ((8 * j + 8 : Nat) : Int) := by omega
    have c9 : ((8 * j + t : Nat) : Int) < ((8 * j + 8 : Nat) : Int) := by omega
    have c2 : (0 : Int) ≤ ((8 * j + t : Nat) : Int) := by omega
    by_cases c : ((8 * j + t : Nat) : Int) < (l.length : Int)
    · have hp := byteP_lt l j t
      have hp1 := byteP_lt l j (t + 1)
      have h2 : 2 ^ (t + 1) ≤ 2 ^ 8 := Nat.pow_le_pow_right (by omega) (by omega)
      have h3 : 2 ^ (t + 1) = 2 * 2 ^ t := by rw [Nat.pow_succ]; omega
      have g1 : (2 : Int) * ((2 ^ t : Nat) : Int) = ((2 ^ (t + 1) : Nat) : Int) := by rw [h3]; omega
      have g2 : -9223372036854775808 ≤ ((2 ^ (t + 1) : Nat) : Int) := by omega
      have g3 : ((2 ^ (t + 1) : Nat) : Int) < 9223372036854775808 := by omega
      have g4 : ((8 * j + t : Nat) : Int) + 1 = ((8 * j + (t + 1) : Nat) : Int) := by omega
      have g5 : -9223372036854775808 ≤ ((8 * j + (t + 1) : Nat) : Int) := by omega
      have g6 : ((8 * j + (t + 1) : Nat) : Int) < 9223372036854775808 := by omega
      have g7 : -9223372036854775808 ≤ (byteP l j (t + 1) : Int) := by omega
      have g8 : (byteP l j (t + 1) : Int) < 9223372036854775808 := by omega
      have hrd : rdOf false l ((8 * j + t : Nat) : Int) = l.getD (8 * j + t) false := by simp only [rdOf, Int.toNat_natCast]
      refine Ev.step (f := fun k => busbarref05_Pack.j2 k l out ((8 * j : Nat) : Int) (byteP l j t : Int) ((2 ^ t : Nat) : Int) ((8 * j + t : Nat) : Int) true) (fun k => ?_) ?_
      · simp only [busbarref05_Pack.l1]
        rw [if_pos c, d3, wrap64_id e4 e3, decide_eq_true c9]
      · refine Ev.step (f := fun k => busbarref05_Pack.l1 k l out ((8 * j : Nat) : Int) (byteP l j (t + 1) : Int) ((2 ^ (t + 1) : Nat) : Int) ((8 * j + (t + 1) : Nat) : Int)) (fun k => ?_) (ih (t + 1) (by omega))
        simp only [busbarref05_Pack.j2]
        rw [if_pos trivial, if_pos c2, if_pos c, hrd, g1, wrap64_id g2 g3, g4, wrap64_id g5 g6]
        cases hb : l.getD (8 * j + t) false with
        | true =>
          have hb1 : (byteP l j t : Int) + ((2 ^ t : Nat) : Int) = (byteP l j (t + 1) : Int) := by simp only [byteP, hb, Bool.toNat_true, Nat.mul_one]; omega
          rw [if_pos rfl, hb1, wrap64_id g7 g8]
        | false =>
          have hb1 : byteP l j (t + 1) = byteP l j t := by simp only [byteP, hb, Bool.toNat_false, Nat.mul_zero, Nat.add_zero]
          rw [if_neg (by simp), hb1]
    · refine hend t ?_ (fun k => ?_)
      · rw [← byteP_all, ← byteP_over l j t (d + 1) (by omega), ht]
      · simp only [busbarref05_Pack.l1]
        rw [if_neg c]
theorem outer (l : List Bool) (hl : l.length ≤ 140737488351232) (d : Nat) : ∀ j, j + d = bytesN l.length → Ev (fun k => busbarref05_Pack.l0 k l (first l j) ((8 * j : Nat) : Int)) (packS l) := by
  induction d with
  | zero =>
    intro j hj
    refine Ev.step (f := fun _ => some (packS l)) (fun k => ?_) (Ev.now _)
    have c : ¬ ((8 * j : Nat) : Int) < (l.length : Int) := by unfold bytesN at hj; omega
    simp only [busbarref05_Pack.l0]
    rw [if_neg c, show first l j = packS l by unfold first packS; rw [← hj]; rfl]
  | succ d ih =>
    intro j hj
    have hj8 : 8 * j < l.length := by unfold bytesN at hj; omega
    have c : ((8 * j : Nat) : Int) < (l.length : Int) := by omega
    refine Ev.step (f := fun k => busbarref05_Pack.l1 k l (first l j) ((8 * j : Nat) : Int) (byteP l j 0 : Int) ((2 ^ 0 : Nat) : Int) ((8 * j + 0 : Nat) : Int)) (fun k => ?_) ?_
    · simp only [busbarref05_Pack.l0]
      rw [if_pos c]; rfl
    · refine inner l (by omega) (first l j) (by simp only [first, List.length_map, List.length_range]; unfold bytesN at hj; omega) j _ hj8 ?_ 8 0 (by omega)
      rw [← first_succ]
      exact ih (j + 1) (by omega)
theorem pack_ev (l : List Bool) (hl : l.length ≤ 140737488351232) : Ev (fun k => busbarref05_Pack.f k l) (packS l) := by
  have h := outer l hl (bytesN l.length) 0 (by omega)
  exact h
theorem half (b : List Int) (n : Int) (out : List Bool) (ho : out.length < 140737488355328) (i : Nat) (hi : (i : Int) < 9223372036854775000) (x : Nat) (hx : x < 256) (r : List Bool × Bool)
    (hr : Ev (fun k => busbarref05_Unpack.l0 k b n (out ++ [(x / 2 ^ (i % 8)) % 2 == 1]) ((i + 1 : Nat) : Int)) r) (d : Nat) : ∀ t, t + d = i % 8 →
    Ev (fun k => busbarref05_Unpack.l1 k b n out (i : Int) ((x / 2 ^ t : Nat) : Int) (t : Int)) r := by
  have d1 : (i : Int) % 8 = ((i % 8 : Nat) : Int) := by omega
  have c2 : (0 : Int) ≤ (i : Int) := by omega
  induction d with
  | zero =>
    intro t ht
    obtain rfl : t = i % 8 := by omega
    refine Ev.step (f := fun k => busbarref05_Unpack.l0 k b n (out ++ [(x / 2 ^ (i % 8)) % 2 == 1]) ((i + 1 : Nat) : Int)) (fun k => ?_) hr
    have c : ¬ ((i % 8 : Nat) : Int) < ((i % 8 : Nat) : Int) := by omega
    have d3 : (i : Int) + 1 = ((i + 1 : Nat) : Int) := by omega
    have e3 : ((i + 1 : Nat) : Int) < 9223372036854775808 := by omega
    have e4 : -9223372036854775808 ≤ ((i + 1 : Nat) : Int) := by omega
    have c3 : (0 : Int) ≤ ((x / 2 ^ (i % 8) : Nat) : Int) := Int.natCast_nonneg _
    simp only [busbarref05_Unpack.l1]
    rw [tmod_id c2, d1, if_neg c, if_pos ho, d3, wrap64_id e4 e3, tmod_id c3]
    have : (((x / 2 ^ (i % 8) : Nat) : Int) % 2 == 1) = ((x / 2 ^ (i % 8)) % 2 == 1) := by
      generalize x / 2 ^ (i % 8) = y
      rw [Bool.eq_iff_iff, beq_iff_eq, beq_iff_eq]; omega
    rw [this]
  | succ d ih =>
    intro t ht
    refine Ev.step (f := fun k => busbarref05_Unpack.l1 k b n out (i : Int) ((x / 2 ^ (t + 1) : Nat) : Int) ((t + 1 : Nat) : Int)) (fun k => ?_) (ih (t + 1) (by omega))
    have c : (t : Int) < ((i % 8 : Nat) : Int) := by omega
    have hle : x / 2 ^ t ≤ x := Nat.div_le_self _ _
    have hle2 : x / 2 ^ (t + 1) ≤ x := Nat.div_le_self _ _
    have c3 : (0 : Int) ≤ ((x / 2 ^ t : Nat) : Int) := Int.natCast_nonneg _
    have d4 : ((x / 2 ^ t : Nat) : Int) / 2 = ((x / 2 ^ (t + 1) : Nat) : Int) := by rw [Nat.pow_succ, ← Nat.div_div_eq_div_mul]; omega
    have e1 : -9223372036854775808 ≤ ((x / 2 ^ (t + 1) : Nat) : Int) := by omega
    have e2 : ((x / 2 ^ (t + 1) : Nat) : Int) < 9223372036854775808 := by omega
    have d3 : (t : Int) + 1 = ((t + 1 : Nat) : Int) := by omega
    have e3 : ((t + 1 : Nat) : Int) < 9223372036854775808 := by omega
    have e4 : -9223372036854775808 ≤ ((t + 1 : Nat) : Int) := by omega
    simp only [busbarref05_Unpack.l1]
    rw [tmod_id c2, d1, if_pos c, tdiv_id c3, d4, wrap64_id e1 e2, d3, wrap64_id e4 e3]
theorem unpackS_succ (b : List Int) (i : Nat) : unpackS b (i + 1) = unpackS b i ++ [bitAt b i] := by unfold unpackS; rw [List.range_succ, List.map_append]; rfl
theorem unpackS_length (b : List Int) (n : Nat) : (unpackS b n).length = n := by simp [unpackS]
def refR (b : List Int) (n : Nat) : List Bool × Bool := if packS (unpackS b n) = b then (unpackS b n, true) else ([], false)
theorem refR_eq (b : List Int) (n : Nat) (hb : isBytes b) : refR b n = unpackR b n := by
  unfold refR unpackR
  rw [Int.toNat_natCast]
  by_cases h1 : b.length = bytesN n
  · cases h2 : tail0 b n with
    | true => rw [if_pos (packS_unpackS b n hb h1 h2), if_neg]; rintro (h | h | h) <;> first | omega | exact h h1 | cases h
    | false =>
      rw [if_neg, if_pos (.inr (.inr rfl))]
      intro h
      have := tail0_packS (unpackS b n)
      rw [h, unpackS_length, h2] at this
      cases this
  · rw [if_neg, if_pos (.inr (.inl h1))]
    intro h
    have := packS_length (unpackS b n)
    rw [h, unpackS_length] at this
    exact h1 this
theorem un_loop (b : List Int) (n : Nat) (hb : isBytes b) (hl : b.length ≤ 1000000) (hn : n ≤ 8 * b.length) (d : Nat) : ∀ i, i + d = n → Ev (fun k => busbarref05_Unpack.l0 k b n (unpackS b i) (i : Int)) (refR b n) := by
  induction d with
  | zero =>
    intro i hi
    obtain rfl : i = n := by omega
    have c : ¬ (i : Int) < (i : Int) := by omega
    refine Ev.step (f := fun k => (busbarref05_Pack.f k (unpackS b i)).bind fun t => if (strOfNums t).toList = (strOfNums b).toList then some (unpackS b i, true) else some ([], false)) (fun k => ?_) ?_
    · simp only [busbarref05_Unpack.l0]
      rw [if_neg c]
    · refine Ev.bind (f := fun _ t => if (strOfNums t).toList = (strOfNums b).toList then some (unpackS b i, true) else some ([], false)) (pack_ev (unpackS b i) (by rw [unpackS_length]; omega)) ?_
      unfold refR
      by_cases h : packS (unpackS b i) = b
      · rw [if_pos h]
        exact pos (by rw [h]) (Ev.now _)
      · rw [if_neg h]
        exact neg (by rw [str_eq (packS_bytes _) hb]; exact h) (Ev.now _)
  | succ d ih =>
    intro i hi
    have c1 : (i : Int) < (n : Int) := by omega
    have c2 : (0 : Int) ≤ (i : Int) := by omega
    have d1 : (i : Int) / 8 = ((i / 8 : Nat) : Int) := by omega
    have c4 : (0 : Int) ≤ ((i / 8 : Nat) : Int) := by omega
    have c5 : ((i / 8 : Nat) : Int) < (b.length : Int) := by omega
    have e1 : ((i / 8 : Nat) : Int) < 9223372036854775808 := by omega
    have e2 : -9223372036854775808 ≤ ((i / 8 : Nat) : Int) := by omega
    obtain ⟨h0, h1⟩ := isBytes_rd hb (i / 8)
    obtain ⟨x, hx⟩ := Int.eq_ofNat_of_zero_le h0
    have hx2 : x < 256 := by omega
    have e5 : -9223372036854775808 ≤ (x : Int) := by omega
    have e6 : (x : Int) < 9223372036854775808 := by omega
    have hrd : rd b ((i / 8 : Nat) : Int) = (x : Int) := by unfold rd; rw [Int.toNat_natCast]; exact hx
    refine Ev.step (f := fun k => busbarref05_Unpack.l1 k b n (unpackS b i) (i : Int) ((x / 2 ^ 0 : Nat) : Int) ((0 : Nat) : Int)) (fun k => ?_) ?_
    · simp only [busbarref05_Unpack.l0]
      rw [if_pos c1, tdiv_id c2, d1, wrap64_id e2 e1, if_pos c4, if_pos c5, hrd, wrap64_id e5 e6, Nat.pow_zero, Nat.div_one]; rfl
    · have hbit : bitAt b i = (x / 2 ^ (i % 8) % 2 == 1) := by unfold bitAt; rw [hx]; rfl
      refine half b n (unpackS b i) (by rw [unpackS_length]; omega) i (by omega) x hx2 _ ?_ (i % 8) 0 (by omega)
      rw [← hbit, ← unpackS_succ]
      exact ih (i + 1) (by omega)
theorem unpack_ev (b : List Int) (n : Int) (hb : isBytes b) (hl : b.length ≤ 1000000) (h1 : n < 9223372036854775808) : Ev (fun k => busbarref05_Unpack.f k b n) (unpackR b n) := by
  have d8 : 8 * (b.length : Int) = ((8 * b.length : Nat) : Int) := by omega
  have e1 : -9223372036854775808 ≤ ((8 * b.length : Nat) : Int) := by omega
  have e2 : ((8 * b.length : Nat) : Int) < 9223372036854775808 := by omega
  by_cases hneg : n < 0
  · refine Ev.congr (f := fun k => busbarref05_Unpack.j0 k b n true) (fun k => by unfold busbarref05_Unpack.f; rw [if_pos hneg]) ?_
    refine Ev.step (f := fun _ => some ([], false)) (fun k => by simp only [busbarref05_Unpack.j0]; rfl) (ret ?_)
    unfold unpackR; rw [if_pos (.inl hneg)]
  · refine Ev.congr (f := fun k => busbarref05_Unpack.j0 k b n (decide (n > ((8 * b.length : Nat) : Int)))) (fun k => by unfold busbarref05_Unpack.f; rw [if_neg hneg, d8, wrap64_id e1 e2]) ?_
    by_cases hbig : n > ((8 * b.length : Nat) : Int)
    · rw [decide_eq_true hbig]
      refine Ev.step (f := fun _ => some ([], false)) (fun k => by simp only [busbarref05_Unpack.j0]; rfl) (ret ?_)
      have hne : b.length ≠ bytesN n.toNat := by unfold bytesN; omega
      unfold unpackR; rw [if_pos (.inr (.inl hne))]
    · rw [decide_eq_false hbig]
      obtain ⟨m, rfl⟩ := Int.eq_ofNat_of_zero_le (show 0 ≤ n by omega)
      refine Ev.step (f := fun k => busbarref05_Unpack.l0 k b m (unpackS b 0) ((0 : Nat) : Int)) (fun k => ?_) ?_
      · simp only [busbarref05_Unpack.j0]; rfl
      · have := un_loop b m hb hl (by omega) m 0 (by omega)
        rw [refR_eq b m hb] at this
        exact this
end Go.Proofs.Ytggiobdjepgkfaa.R05
end
section
namespace Go.Proofs.Ytggiobdjepgkfaa.P
open Go.RowKit Go.Proofs.YtggiobdjepgkfaaW.PrintWords Go.Proofs.YtggiobdjepgkfaaW.PrintLast Go.Proofs.YtggiobdjepgkfaaW.PrintMore
attribute [local go_sem] max2_int min2_int max_two min_two max_three min_three max_four min_four   -- for this text's walks alone
def word_Within.f (a0 : Int) (a1 : Int) : Option (Bool) := if a1 > 0 then (some (decide (a1 ≤ (wrap64 (65536 - (wrap64 (a0))))))) else (some false)
theorem word_Within.calls (a0 : Int) (a1 : Int) (r : Bool) (w : World) (h : word_Within.f a0 a1 = some r) :
    Calls Try.prog 63 #[.int .u16 a0, .int .i64 a1] w fun e w' => e = .returned (.bool r) ∧ Drawn0 w w' := by
  have H : (if a1 > 0 then (some (decide (a1 ≤ (wrap64 (65536 - (wrap64 (a0))))))) else (some false)) = some r := h
  clear h
  by_cases c3 : a1 > 0
  · rw [if_pos c3] at H
    have c3b0 : decide (0 < a1) = true := decide_eq_true c3
    clear c3
    obtain rfl := Option.some.inj H
    go_enter Try.func63, Try.ntmps63
    go_wp2
    go_ret
    exact ⟨by first | rfl | (simp; done) | (simp [*]; done), by repeat (first | exact Drawn0.refl _ | apply Drawn0.step)⟩
  · rw [if_neg c3] at H
    have c3b0 : decide (0 < a1) = false := decide_eq_false c3
    clear c3
    obtain rfl := Option.some.inj H
    go_enter Try.func63, Try.ntmps63
    go_wp2
    go_ret
    exact ⟨by first | rfl | (simp; done) | (simp [*]; done), by repeat (first | exact Drawn0.refl _ | apply Drawn0.step)⟩
end Go.Proofs.Ytggiobdjepgkfaa.P
end
section
namespace Go.Proofs.Ytggiobdjepgkfaa.P
open Go.RowKit Go.Proofs.YtggiobdjepgkfaaW.PrintWords Go.Proofs.YtggiobdjepgkfaaW.PrintLast Go.Proofs.YtggiobdjepgkfaaW.PrintMore
attribute [local go_sem] max2_int min2_int max_two min_two max_three min_three max_four min_four   -- for this text's walks alone
def busbarref04_Within.f (a0 : Int) (a1 : Int) : Option (Bool) := if a1 < 1 then (some false) else (if a1 > 65536 then (some false) else (some (decide ((wrap64 ((wrap64 (a0)) + a1)) ≤ 65536))))
theorem busbarref04_Within.calls (a0 : Int) (a1 : Int) (r : Bool) (w : World) (h : busbarref04_Within.f a0 a1 = some r) :
    Calls Try.prog 49 #[.int .u16 a0, .int .i64 a1] w fun e w' => e = .returned (.bool r) ∧ Drawn0 w w' := by
  have H : (if a1 < 1 then (some false) else (if a1 > 65536 then (some false) else (some (decide ((wrap64 ((wrap64 (a0)) + a1)) ≤ 65536))))) = some r := h
  clear h
  by_cases c3 : a1 < 1
  · rw [if_pos c3] at H
    have c3b0 : decide (a1 < 1) = true := decide_eq_true c3
    clear c3
    obtain rfl := Option.some.inj H
    go_enter Try.func49, Try.ntmps49
    go_wp2
    go_ret
    exact ⟨by first | rfl | (simp; done) | (simp [*]; done), by repeat (first | exact Drawn0.refl _ | apply Drawn0.step)⟩
  · rw [if_neg c3] at H
    have c3b0 : decide (a1 < 1) = false := decide_eq_false c3
    clear c3
    by_cases c4 : a1 > 65536
    · rw [if_pos c4] at H
      have c4b0 : decide (65536 < a1) = true := decide_eq_true c4
      clear c4
      obtain rfl := Option.some.inj H
      go_enter Try.func49, Try.ntmps49
      go_wp2
      go_ret
      exact ⟨by first | rfl | (simp; done) | (simp [*]; done), by repeat (first | exact Drawn0.refl _ | apply Drawn0.step)⟩
    · rw [if_neg c4] at H
      have c4b0 : decide (65536 < a1) = false := decide_eq_false c4
      clear c4
      obtain rfl := Option.some.inj H
      go_enter Try.func49, Try.ntmps49
      go_wp2
      go_ret
      exact ⟨by first | rfl | (simp; done) | (simp [*]; done), by repeat (first | exact Drawn0.refl _ | apply Drawn0.step)⟩
end Go.Proofs.Ytggiobdjepgkfaa.P
end
section
namespace Go.Proofs.Ytggiobdjepgkfaa.Coil
open Go.RowKit Go.Proofs.Ytggiobdjepgkfaa.P Go.Proofs.Ytggiobdjepgkfaa.E Go.Proofs.Ytggiobdjepgkfaa.Cur Go.Proofs.Ytggiobdjepgkfaa.Cu Go.Proofs.Ytggiobdjepgkfaa.Same Go.Proofs.Ytggiobdjepgkfaa.Bits Go.Proofs.YtggiobdjepgkfaaW.PrintWords Go.Proofs.YtggiobdjepgkfaaW.PrintLast Go.Proofs.YtggiobdjepgkfaaW.PrintMore
def withinB (a k : Int) : Bool := decide (0 < k) && decide (k ≤ 65536 - a)
def spanR (most : Int) (m : Msg) : (Cu → Cu × Msg) := Rd.bind Rd.word fun a => Rd.bind Rd.word fun k => Rd.bind (Rd.need (decide (1 ≤ k) && decide (k ≤ most)) 5) fun _ => Rd.bind (Rd.need (withinB a k) 7) fun _ => Rd.ret { m with addr := a, count := k }
def toldR (m : Msg) : (Cu → Cu × Msg) := Rd.bind Rd.byte fun n => Rd.bind (Rd.need (decide (1 ≤ n) && decide (n ≤ 250)) 5) fun _ => Rd.bind (Rd.bytes n) fun l => Rd.ret { m with data := l }
def setsR (m : Msg) : (Cu → Cu × Msg) := Rd.bind Rd.word fun a => Rd.bind Rd.word fun v => Rd.bind (Rd.need (v == 0 || v == 65280) 6) fun _ => Rd.ret { m with addr := a, value := v }
def manyK (m1 : Msg) : (Cu → Cu × Msg) := Rd.bind Rd.byte fun n => Rd.bind (Rd.need (n == (bytesN m1.count.toNat : Int)) 5) fun _ => Rd.bind (Rd.bytes n) fun l => Rd.bind (Rd.need (unpackR l m1.count).2 6) fun _ => Rd.ret { m1 with bits := (unpackR l m1.count).1 }
def manyR (m : Msg) : (Cu → Cu × Msg) := Rd.bind (spanR 1968 m) manyK
theorem within_c {a k : Int} (ha : 0 ≤ a ∧ a < 65536) (w : World) : Calls Try.prog 63 #[.int .u16 a, .int .i64 k] w fun en w' => en = .returned (.bool (withinB a k)) ∧ Below w.heap.size w w' := by
  have e : word_Within.f a k = some (withinB a k) := by
    unfold word_Within.f withinB
    rw [wrap64_id (x := a) (by omega) (by omega), wrap64_id (by omega) (by omega)]
    by_cases h : k > 0
    · rw [if_pos h, decide_eq_true (show (0 : Int) < k from h), Bool.true_and]
    · rw [if_neg h, decide_eq_false (show ¬ (0 : Int) < k from h), Bool.false_and]
  refine (word_Within.calls _ _ _ w e).mono ?_
  rintro e w' ⟨rfl, n, rfl⟩
  exact ⟨rfl, pw_below_drewN (Below.refl _ _) _⟩
theorem rwithin_c {a k : Int} (ha : 0 ≤ a ∧ a < 65536) (w : World) : Calls Try.prog 49 #[.int .u16 a, .int .i64 k] w fun en w' => en = .returned (.bool (withinB a k)) ∧ Below w.heap.size w w' := by
  have e : busbarref04_Within.f a k = some (withinB a k) := by
    unfold busbarref04_Within.f withinB
    by_cases h : k < 1
    · rw [if_pos h, decide_eq_false (show ¬ (0 : Int) < k by omega), Bool.false_and]
    rw [if_neg h, decide_eq_true (show (0 : Int) < k by omega), Bool.true_and]
    by_cases h2 : k > 65536
    · rw [if_pos h2, decide_eq_false (by omega)]
    rw [if_neg h2, wrap64_id (x := a) (by omega) (by omega), wrap64_id (by omega) (by omega)]
    congr 1
    rw [Bool.eq_iff_iff, decide_eq_true_eq, decide_eq_true_eq]
    omega
  refine (busbarref04_Within.calls _ _ _ w e).mono ?_
  rintro e w' ⟨rfl, n, rfl⟩
  exact ⟨rfl, pw_below_drewN (Below.refl _ _) _⟩
def span.T1 : Bool × List (List Nat × List Nat) := (true, [([], []), ([0], [0]), ([], []), ([2], [2]), ([3], [3]), ([1, 0, 1, 2, 3, 4], [1]), ([5, 0, 1, 2, 3, 4], [5]), ([6, 4, 4, 0, 1, 2, 3, 4], [4, 6])])
def span.B1 : List Nat := [0, 1, 0, 4, 12, 31, 63, 127]
theorem span.tab1 : rtab .any (opsOf Try.f42 1) = span.T1 := by kernel_rfl
theorem span.bits1 : waitsOk span.T1.2 span.B1 = true := by kernel_rfl
def span.T2 : Bool × List (List Nat × List Nat) := (true, [([], []), ([0], [0]), ([], []), ([2], [2]), ([3], [3]), ([1, 0, 1, 2, 3, 4], [1]), ([5, 0, 1, 2, 3, 4], [5]), ([6, 4, 4, 0, 1, 2, 3, 4], [4, 6])])
def span.B2 : List Nat := [0, 1, 0, 4, 12, 31, 63, 127]
theorem span.tab2 : rtab .any (opsOf Try.f42 2) = span.T2 := by kernel_rfl
theorem span.bits2 : waitsOk span.T2.2 span.B2 = true := by kernel_rfl
def span.T3 : Bool × List (List Nat × List Nat) := (true, [([], []), ([0], [0]), ([], []), ([2], [2]), ([3], [3]), ([4], [4]), ([5], [5]), ([6], [6]), ([7], [7]), ([8], [8]), ([9, 8], [8, 9]), ([10, 8], [8, 10]), ([11, 8], [8, 11]), ([12, 8], [8, 12]), ([8], [8]), ([13, 14, 8], [8, 13, 14]), ([8, 15], [8, 15]), ([1, 16, 8], [1, 16])])
def span.B3 : List Nat := [0, 1, 0, 4, 12, 28, 60, 124, 252, 508, 1020, 2044, 4092, 8188, 508, 32764, 65532, 131071]
theorem span.tab3 : rtab .any (opsOf Try.f42 3) = span.T3 := by kernel_rfl
theorem span.bits3 : waitsOk span.T3.2 span.B3 = true := by kernel_rfl
def span.T4 : Bool × List (List Nat × List Nat) := (true, [([], []), ([0], [0]), ([], []), ([2], [2]), ([3], [3]), ([4], [4]), ([5], [5]), ([], []), ([7], [7]), ([8], [8]), ([9], [9]), ([10], [10]), ([11], [11]), ([6, 12], [6, 12]), ([1, 13, 13], [1, 13])])
def span.B4 : List Nat := [0, 1, 0, 4, 12, 28, 60, 0, 128, 384, 896, 1920, 3968, 8188, 16383]
theorem span.tab4 : rtab .any (opsOf Try.f42 4) = span.T4 := by kernel_rfl
theorem span.bits4 : waitsOk span.T4.2 span.B4 = true := by kernel_rfl
theorem span_1 {wb w0 w : World} {gr g gm : Nat} {c0 : Cu} {m : Msg} (h : PS.Sk wb w0 gr g gm w c0 m) {most : Int} (hmo : 0 ≤ most ∧ most < 65536) (hg : 1 ≤ c0.wordS.wordV) :
    Calls Try.prog 42 #[.agg #[.pointer (some ⟨g, 0, none⟩), .pointer (some ⟨gm, 0, none⟩)], .int .u16 most] w fun en w' => en = .returned (.tuple #[]) ∧ PS.Sk wb w0 gr g gm w' (spanR most m c0).1 (spanR most m c0).2 := by
  have HMO := Aside0.mk hmo
  clear hmo
  have hlt := PS.Sk.lt h
  have HKP := Aside0.mk h.kp
  have HP := Aside0.mk (PS.Sk.start (PS.St.below h.st (below_alloc (Below.refl _ _) (.cells #[.pointer (some ⟨g, 0, none⟩), .pointer (some ⟨gm, 0, none⟩)] 50))))
  have F0 := Aside0.mk (show (w.alloc (.cells #[.pointer (some ⟨g, 0, none⟩), .pointer (some ⟨gm, 0, none⟩)] 50)).cell? ⟨w.heap.size, 0, none⟩ = some (.pointer (some ⟨g, 0, none⟩)) from (blk_cell (blk_new w (.cells #[.pointer (some ⟨g, 0, none⟩), .pointer (some ⟨gm, 0, none⟩)] 50)) 0).trans rfl)
  have F1 := Aside0.mk (show (w.alloc (.cells #[.pointer (some ⟨g, 0, none⟩), .pointer (some ⟨gm, 0, none⟩)] 50)).cell? ⟨w.heap.size, 1, none⟩ = some (.pointer (some ⟨gm, 0, none⟩)) from (blk_cell (blk_new w (.cells #[.pointer (some ⟨g, 0, none⟩), .pointer (some ⟨gm, 0, none⟩)] 50)) 1).trans rfl)
  have hg1 : w.heap.size ≠ g := by omega
  have hg2 : w.heap.size ≠ gm := by omega
  clear hlt h
  go_enter Try.func42, Try.ntmps42
  go_upto_region 1 with (fail)
  have n0_ := Aside0.mk (PS.Sk.below HP.out (below_drew (Below.refl _ _)))
  clear HP
  have HP := n0_
  clear n0_
  obtain ⟨l0, h0⟩ := Cu.wordV_bd (PS.Sk.good HP.out)
  refine start_ (n := 8) (S := fun w' => w'.cell? ⟨w.heap.size, 0, none⟩ = some (.pointer (some ⟨g, 0, none⟩)) ∧ w'.cell? ⟨w.heap.size, 1, none⟩ = some (.pointer (some ⟨gm, 0, none⟩))) (ds := []) (bm 8 0) (by as_aux_lemma => kernel_rfl) rfl (by as_aux_lemma => kernel_rfl) ⟨(PS.Sk.cell HP.out F0.out hg1 hg2), (PS.Sk.cell HP.out F1.out hg1 hg2)⟩ (fun hHeld => ?_)
  refine with_tabW span.tab1 span.bits1 (fun HT_ HW_ => ?_)
  refine pu_ 0 (some 4) (bm 8 1) HT_ (by as_aux_lemma => kernel_rfl) rfl rfl (fun _ _ _ h => h) (by rfl) (by intro w'; go_simp; with_reducible rfl) (by go_simp; rfl) ?_
  refine pu_ 2 (some 6) (bm 8 5) HT_ (by as_aux_lemma => kernel_rfl) rfl rfl (fun _ _ _ h => h) (by rfl) (by intro w'; go_simp; with_reducible rfl) (by go_simp; rfl) ?_
  refine tk_ 1 (some 5) (bm 8 7) HT_ HW_ hHeld (by as_aux_lemma => kernel_rfl) rfl rfl (fun _ _ _ h => h) (by rfl) (by rintro w' ⟨s0, s1⟩; go_simp; with_reducible rfl) (by go_simp; rfl) ?_
  refine tk_ 3 (some 7) (bm 8 15) HT_ HW_ hHeld (by as_aux_lemma => kernel_rfl) rfl rfl (fun _ _ _ h => h) (by rfl) (by rintro w' ⟨s0, s1⟩; go_simp; with_reducible rfl) (by go_simp; rfl) ?_
  refine one_ (i := 4) (N := some 8) (bm 8 31) rfl rfl (one_of HT_.out (by as_aux_lemma => kernel_rfl)) (by as_aux_lemma => decide) (fun K hK => ?_)
  refine goes_ Try.func46 (by as_aux_lemma => kernel_rfl) rfl #[.pointer (some ⟨g, 0, none⟩)] (by rfl) rfl rfl (by simp only [List.map_toArray, List.map_cons, List.map_nil]; rfl) ?_
  with_reducible refine (PS.Sk.word HP.out).mono ?_
  rintro en x1 ⟨rfl, hp_⟩
  obtain ⟨c1, ec_⟩ : ∃ z, z = c0.wordS := ⟨_, rfl⟩
  rw [← ec_] at hp_
  have Ec1 := Aside0.mk ec_
  clear ec_
  obtain ⟨kaddr, faddr⟩ := PS.Sk.at_addr hp_
  have n0_ := Aside0.mk hp_
  clear HP hp_
  have HP := n0_
  clear n0_
  refine ⟨_, rfl, ?_⟩
  refine hK.out _ _ ⟨(PS.Sk.cell HP.out F0.out hg1 hg2), (PS.Sk.cell HP.out F1.out hg1 hg2)⟩ (fun hHeld => ?_)
  clear hK K
  refine norm_ (a' := ?_) ?_ ?_
  rotate_left
  · show Act.put _ (some 8) _ = _
    simp only [Act.put, List.setIfInBounds_toArray, List.set_cons_zero, List.set_cons_succ, i64_w, i32_w]
    rfl
  refine pu_ 5 (some 9) (bm 8 63) HT_ (by as_aux_lemma => kernel_rfl) rfl rfl (fun _ _ _ h => h) (by rfl) (by intro w'; go_simp; with_reducible rfl) (by go_simp; rfl) ?_
  refine pu_ 6 (some 10) (bm 8 127) HT_ (by as_aux_lemma => kernel_rfl) rfl rfl (fun _ _ _ h => h) (by rfl) (by intro w'; go_simp; with_reducible rfl) (by go_simp; rfl) ?_
  refine one_ (i := 7) (N := none) (bm 8 255) rfl rfl (one_of HT_.out (by as_aux_lemma => kernel_rfl)) (by as_aux_lemma => decide) (fun K hK => ?_)
  refine skip_ (w1 := ?_) (by rfl) rfl ?_ ?_
  rotate_left
  · go_simp
    rfl
  have hp_ := HP.out.put_addr ⟨l0, h0⟩
  have n0_ := Aside0.mk hp_
  clear HP hp_
  have HP := n0_
  clear n0_
  refine hK.out _ _ ⟨(PS.Sk.cell HP.out F0.out hg1 hg2), (PS.Sk.cell HP.out F1.out hg1 hg2)⟩ (fun hHeld => ?_)
  clear hK K
  refine done_ (done_of HT_.out (by as_aux_lemma => kernel_rfl)) ?_
  clear kaddr faddr
  go_upto_region 2 with (fail)
  have n0_ := Aside0.mk (PS.Sk.below HP.out (below_drew (Below.refl _ _)))
  clear HP
  have HP := n0_
  clear n0_
  obtain ⟨l1, h1⟩ := Cu.wordV_bd (PS.Sk.good HP.out)
  refine start_ (n := 8) (S := fun w' => w'.cell? ⟨w.heap.size, 0, none⟩ = some (.pointer (some ⟨g, 0, none⟩)) ∧ w'.cell? ⟨w.heap.size, 1, none⟩ = some (.pointer (some ⟨gm, 0, none⟩))) (ds := []) (bm 8 0) (by as_aux_lemma => kernel_rfl) rfl (by as_aux_lemma => kernel_rfl) ⟨(PS.Sk.cell HP.out F0.out hg1 hg2), (PS.Sk.cell HP.out F1.out hg1 hg2)⟩ (fun hHeld => ?_)
  refine with_tabW span.tab2 span.bits2 (fun HT_ HW_ => ?_)
  refine pu_ 0 (some 11) (bm 8 1) HT_ (by as_aux_lemma => kernel_rfl) rfl rfl (fun _ _ _ h => h) (by rfl) (by intro w'; go_simp; with_reducible rfl) (by go_simp; rfl) ?_
  refine pu_ 2 (some 13) (bm 8 5) HT_ (by as_aux_lemma => kernel_rfl) rfl rfl (fun _ _ _ h => h) (by rfl) (by intro w'; go_simp; with_reducible rfl) (by go_simp; rfl) ?_
  refine tk_ 1 (some 12) (bm 8 7) HT_ HW_ hHeld (by as_aux_lemma => kernel_rfl) rfl rfl (fun _ _ _ h => h) (by rfl) (by rintro w' ⟨s0, s1⟩; go_simp; with_reducible rfl) (by go_simp; rfl) ?_
  refine tk_ 3 (some 14) (bm 8 15) HT_ HW_ hHeld (by as_aux_lemma => kernel_rfl) rfl rfl (fun _ _ _ h => h) (by rfl) (by rintro w' ⟨s0, s1⟩; go_simp; with_reducible rfl) (by go_simp; rfl) ?_
  refine one_ (i := 4) (N := some 15) (bm 8 31) rfl rfl (one_of HT_.out (by as_aux_lemma => kernel_rfl)) (by as_aux_lemma => decide) (fun K hK => ?_)
  refine goes_ Try.func46 (by as_aux_lemma => kernel_rfl) rfl #[.pointer (some ⟨g, 0, none⟩)] (by rfl) rfl rfl (by simp only [List.map_toArray, List.map_cons, List.map_nil]; rfl) ?_
  with_reducible refine (PS.Sk.word HP.out).mono ?_
  rintro en x2 ⟨rfl, hp_⟩
  obtain ⟨c2, ec_⟩ : ∃ z, z = c1.wordS := ⟨_, rfl⟩
  rw [← ec_] at hp_
  have Ec2 := Aside0.mk ec_
  clear ec_
  obtain ⟨kcount, fcount⟩ := PS.Sk.at_count hp_
  have n0_ := Aside0.mk hp_
  clear HP hp_
  have HP := n0_
  clear n0_
  refine ⟨_, rfl, ?_⟩
  refine hK.out _ _ ⟨(PS.Sk.cell HP.out F0.out hg1 hg2), (PS.Sk.cell HP.out F1.out hg1 hg2)⟩ (fun hHeld => ?_)
  clear hK K
  refine norm_ (a' := ?_) ?_ ?_
  rotate_left
  · show Act.put _ (some 15) _ = _
    simp only [Act.put, List.setIfInBounds_toArray, List.set_cons_zero, List.set_cons_succ, i64_w, i32_w]
    rfl
  refine pu_ 5 (some 16) (bm 8 63) HT_ (by as_aux_lemma => kernel_rfl) rfl rfl (fun _ _ _ h => h) (by rfl) (by intro w'; go_simp; with_reducible rfl) (by go_simp; rfl) ?_
  refine pu_ 6 (some 17) (bm 8 127) HT_ (by as_aux_lemma => kernel_rfl) rfl rfl (fun _ _ _ h => h) (by rfl) (by intro w'; go_simp; with_reducible rfl) (by go_simp; rfl) ?_
  refine one_ (i := 7) (N := none) (bm 8 255) rfl rfl (one_of HT_.out (by as_aux_lemma => kernel_rfl)) (by as_aux_lemma => decide) (fun K hK => ?_)
  refine skip_ (w1 := ?_) (by rfl) rfl ?_ ?_
  rotate_left
  · go_simp
    rfl
  have hp_ := HP.out.put_count ⟨l1, h1⟩
  have n0_ := Aside0.mk hp_
  clear HP hp_
  have HP := n0_
  clear n0_
  refine hK.out _ _ ⟨(PS.Sk.cell HP.out F0.out hg1 hg2), (PS.Sk.cell HP.out F1.out hg1 hg2)⟩ (fun hHeld => ?_)
  clear hK K
  refine done_ (done_of HT_.out (by as_aux_lemma => kernel_rfl)) ?_
  clear kcount fcount
  go_upto_region 3 with (fail)
  have hge : decide (1 ≤ c1.wordV) = true := by rw [Ec1.out]; exact decide_eq_true hg
  have hge2 : decide (c1.wordV ≥ 1) = true := hge
  have EB := Aside0.mk (show (decide (1 ≤ c1.wordV) && decide (c1.wordV ≤ most)) = (decide (c1.wordV ≤ most)) from by rw [hge]; rfl)
  have n0_ := Aside0.mk (PS.Sk.below HP.out (below_drew (Below.refl _ _)))
  clear HP
  have HP := n0_
  clear n0_
  refine start_ (n := 18) (S := fun w' => w'.cell? ⟨w.heap.size, 0, none⟩ = some (.pointer (some ⟨g, 0, none⟩)) ∧ w'.cell? ⟨w.heap.size, 1, none⟩ = some (.pointer (some ⟨gm, 0, none⟩)) ∧ w'.cell? ⟨gm, 3, none⟩ = some (.int .u16 c1.wordV)) (ds := []) (bm 18 0) (by as_aux_lemma => kernel_rfl) rfl (by as_aux_lemma => kernel_rfl) ⟨(PS.Sk.cell HP.out F0.out hg1 hg2), (PS.Sk.cell HP.out F1.out hg1 hg2), (PS.Sk.at_count HP.out).1⟩ (fun hHeld => ?_)
  refine with_tabW span.tab3 span.bits3 (fun HT_ HW_ => ?_)
  refine pu_ 0 (some 18) (bm 18 1) HT_ (by as_aux_lemma => kernel_rfl) rfl rfl (fun _ _ _ h => h) (by rfl) (by intro w'; go_simp; with_reducible rfl) (by go_simp; rfl) ?_
  refine pu_ 2 (some 20) (bm 18 5) HT_ (by as_aux_lemma => kernel_rfl) rfl rfl (fun _ _ _ h => h) (by rfl) (by intro w'; go_simp; with_reducible rfl) (by go_simp; rfl) ?_
  refine tk_ 1 (some 19) (bm 18 7) HT_ HW_ hHeld (by as_aux_lemma => kernel_rfl) rfl rfl (fun _ _ _ h => h) (by rfl) (by rintro w' ⟨s0, s1, s2⟩; go_simp; with_reducible rfl) (by go_simp; rfl) ?_
  refine tk_ 3 (some 21) (bm 18 15) HT_ HW_ hHeld (by as_aux_lemma => kernel_rfl) rfl rfl (fun _ _ _ h => h) (by rfl) (by rintro w' ⟨s0, s1, s2⟩; go_simp; with_reducible rfl) (by go_simp; rfl) ?_
  refine pu_ 4 (some 22) (bm 18 31) HT_ (by as_aux_lemma => kernel_rfl) rfl rfl (fun _ _ _ h => h) (by rfl) (by intro w'; go_simp; with_reducible rfl) (by go_simp; rfl) ?_
  refine pu_ 5 (some 23) (bm 18 63) HT_ (by as_aux_lemma => kernel_rfl) rfl rfl (fun _ _ _ h => h) (by rfl) (by intro w'; go_simp; with_reducible rfl) (by go_simp; rfl) ?_
  refine tk_ 6 (some 24) (bm 18 127) HT_ HW_ hHeld (by as_aux_lemma => kernel_rfl) rfl rfl (fun _ _ _ h => h) (by rfl) (by rintro w' ⟨s0, s1, s2⟩; go_simp; with_reducible rfl) (by go_simp; rfl) ?_
  refine pu_ 7 (some 25) (bm 18 255) HT_ (by as_aux_lemma => kernel_rfl) rfl rfl (fun _ _ _ h => h) (by rfl) (by intro w'; go_simp; with_reducible rfl) (by go_simp; rfl) ?_
  refine pu_ 8 (some 26) (bm 18 511) HT_ (by as_aux_lemma => kernel_rfl) rfl rfl (fun _ _ _ h => h) (by rfl) (by intro w'; go_simp; with_reducible rfl) (by go_simp; rfl) ?_
  refine pu_ 9 (some 27) (bm 18 1023) HT_ (by as_aux_lemma => kernel_rfl) rfl rfl (fun _ _ _ h => h) (by rfl) (by intro w'; go_simp; with_reducible rfl) (by go_simp; rfl) ?_
  refine pu_ 14 (some 32) (bm 18 17407) HT_ (by as_aux_lemma => kernel_rfl) rfl rfl (fun _ _ _ h => h) (by rfl) (by intro w'; go_simp; with_reducible rfl) (by go_simp; rfl) ?_
  refine tk_ 10 (some 28) (bm 18 18431) HT_ HW_ hHeld (by as_aux_lemma => kernel_rfl) rfl rfl (fun _ _ _ h => h) (by rfl) (by rintro w' ⟨s0, s1, s2⟩; go_simp; with_reducible rfl) (by go_simp; rfl) ?_
  refine pu_ 11 (some 29) (bm 18 20479) HT_ (by as_aux_lemma => kernel_rfl) rfl rfl (fun _ _ _ h => h) (by rfl) (by intro w'; go_simp; with_reducible rfl) (by go_simp; rfl) ?_
  refine pu_ 12 (some 30) (bm 18 24575) HT_ (by as_aux_lemma => kernel_rfl) rfl rfl (fun _ _ _ h => h) (by rfl) (by intro w'; go_simp; with_reducible rfl) (by go_simp; rfl) ?_
  refine tk_ 13 (some 31) (bm 18 32767) HT_ HW_ hHeld (by as_aux_lemma => kernel_rfl) rfl rfl (fun _ _ _ h => h) (by rfl) (by rintro w' ⟨s0, s1, s2⟩; go_simp; with_reducible rfl) (by go_simp; rfl) ?_
  refine pu_ 15 (some 33) (bm 18 65535) HT_ (by as_aux_lemma => kernel_rfl) rfl rfl (fun _ _ _ h => h) (by rfl) (by intro w'; go_simp; with_reducible rfl) (by go_simp; rfl) ?_
  refine pu_ 16 (some 34) (bm 18 131071) HT_ (by as_aux_lemma => kernel_rfl) rfl rfl (fun _ _ _ h => h) (by rfl) (by intro w'; go_simp; with_reducible rfl) (by go_simp; rfl) ?_
  refine one_ (i := 17) (N := some 35) (bm 18 262143) rfl rfl (one_of HT_.out (by as_aux_lemma => kernel_rfl)) (by as_aux_lemma => decide) (fun K hK => ?_)
  refine goes_ Try.func44 (by as_aux_lemma => kernel_rfl) rfl #[.pointer (some ⟨g, 0, none⟩), .bool (decide (c1.wordV ≤ most)), .int .i64 5] (by rfl) rfl rfl (by simp only [List.map_toArray, List.map_cons, List.map_nil]; rfl) ?_
  with_reducible refine (PS.Sk.need HP.out (decide (c1.wordV ≤ most)) 5).mono ?_
  rintro en x3 ⟨rfl, hp_⟩
  rw [← EB.out] at hp_
  obtain ⟨c3, ec_⟩ : ∃ z, z = c2.need (decide (1 ≤ c1.wordV) && decide (c1.wordV ≤ most)) 5 := ⟨_, rfl⟩
  rw [← ec_] at hp_
  have Ec3 := Aside0.mk ec_
  clear ec_
  have n0_ := Aside0.mk hp_
  clear HP hp_
  have HP := n0_
  clear n0_
  refine ⟨_, rfl, ?_⟩
  refine hK.out _ _ ⟨(PS.Sk.cell HP.out F0.out hg1 hg2), (PS.Sk.cell HP.out F1.out hg1 hg2), (PS.Sk.at_count HP.out).1⟩ (fun hHeld => ?_)
  clear hK K
  refine norm_ (a' := ?_) ?_ ?_
  rotate_left
  · show Act.put _ (some 35) _ = _
    simp only [Act.put, List.setIfInBounds_toArray, List.set_cons_zero, List.set_cons_succ, i64_w, i32_w]
    rfl
  refine done_ (done_of HT_.out (by as_aux_lemma => kernel_rfl)) ?_
  clear hge hge2
  go_upto_region 4 with (fail)
  have wk := wrap64_id (x := c1.wordV) (by omega) (by omega)
  have wk2 : IntKind.i64.wrap c1.wordV = c1.wordV := by rw [i64_w]; exact wk
  have n0_ := Aside0.mk (PS.Sk.below HP.out (below_drew (Below.refl _ _)))
  clear HP
  have HP := n0_
  clear n0_
  refine start_ (n := 15) (S := fun w' => w'.cell? ⟨w.heap.size, 0, none⟩ = some (.pointer (some ⟨g, 0, none⟩)) ∧ w'.cell? ⟨w.heap.size, 1, none⟩ = some (.pointer (some ⟨gm, 0, none⟩)) ∧ w'.cell? ⟨gm, 2, none⟩ = some (.int .u16 c0.wordV) ∧ w'.cell? ⟨gm, 3, none⟩ = some (.int .u16 c1.wordV)) (ds := []) (bm 15 0) (by as_aux_lemma => kernel_rfl) rfl (by as_aux_lemma => kernel_rfl) ⟨(PS.Sk.cell HP.out F0.out hg1 hg2), (PS.Sk.cell HP.out F1.out hg1 hg2), (PS.Sk.at_addr HP.out).1, (PS.Sk.at_count HP.out).1⟩ (fun hHeld => ?_)
  refine with_tabW span.tab4 span.bits4 (fun HT_ HW_ => ?_)
  refine pu_ 0 (some 36) (bm 15 1) HT_ (by as_aux_lemma => kernel_rfl) rfl rfl (fun _ _ _ h => h) (by rfl) (by intro w'; go_simp; with_reducible rfl) (by go_simp; rfl) ?_
  refine pu_ 2 (some 38) (bm 15 5) HT_ (by as_aux_lemma => kernel_rfl) rfl rfl (fun _ _ _ h => h) (by rfl) (by intro w'; go_simp; with_reducible rfl) (by go_simp; rfl) ?_
  refine pu_ 7 (some 43) (bm 15 133) HT_ (by as_aux_lemma => kernel_rfl) rfl rfl (fun _ _ _ h => h) (by rfl) (by intro w'; go_simp; with_reducible rfl) (by go_simp; rfl) ?_
  refine tk_ 1 (some 37) (bm 15 135) HT_ HW_ hHeld (by as_aux_lemma => kernel_rfl) rfl rfl (fun _ _ _ h => h) (by rfl) (by rintro w' ⟨s0, s1, s2, s3⟩; go_simp; with_reducible rfl) (by go_simp; rfl) ?_
  refine tk_ 3 (some 39) (bm 15 143) HT_ HW_ hHeld (by as_aux_lemma => kernel_rfl) rfl rfl (fun _ _ _ h => h) (by rfl) (by rintro w' ⟨s0, s1, s2, s3⟩; go_simp; with_reducible rfl) (by go_simp; rfl) ?_
  refine pu_ 4 (some 40) (bm 15 159) HT_ (by as_aux_lemma => kernel_rfl) rfl rfl (fun _ _ _ h => h) (by rfl) (by intro w'; go_simp; with_reducible rfl) (by go_simp; rfl) ?_
  refine pu_ 5 (some 41) (bm 15 191) HT_ (by as_aux_lemma => kernel_rfl) rfl rfl (fun _ _ _ h => h) (by rfl) (by intro w'; go_simp; with_reducible rfl) (by go_simp; rfl) ?_
  refine tk_ 6 (some 42) (bm 15 255) HT_ HW_ hHeld (by as_aux_lemma => kernel_rfl) rfl rfl (fun _ _ _ h => h) (by rfl) (by rintro w' ⟨s0, s1, s2, s3⟩; go_simp; with_reducible rfl) (by go_simp; rfl) ?_
  refine tk_ 8 (some 44) (bm 15 511) HT_ HW_ hHeld (by as_aux_lemma => kernel_rfl) rfl rfl (fun _ _ _ h => h) (by rfl) (by rintro w' ⟨s0, s1, s2, s3⟩; go_simp; with_reducible rfl) (by go_simp; rfl) ?_
  refine pu_ 9 (some 45) (bm 15 1023) HT_ (by as_aux_lemma => kernel_rfl) rfl rfl (fun _ _ _ h => h) (by rfl) (by intro w'; go_simp; with_reducible rfl) (by go_simp; rfl) ?_
  refine pu_ 10 (some 46) (bm 15 2047) HT_ (by as_aux_lemma => kernel_rfl) rfl rfl (fun _ _ _ h => h) (by rfl) (by intro w'; go_simp; with_reducible rfl) (by go_simp; rfl) ?_
  refine tk_ 11 (some 47) (bm 15 4095) HT_ HW_ hHeld (by as_aux_lemma => kernel_rfl) rfl rfl (fun _ _ _ h => h) (by rfl) (by rintro w' ⟨s0, s1, s2, s3⟩; go_simp; with_reducible rfl) (by go_simp; rfl) ?_
  refine pu_ 12 (some 48) (bm 15 8191) HT_ (by as_aux_lemma => kernel_rfl) rfl rfl (fun _ _ _ h => h) (by rfl) (by intro w'; go_simp; with_reducible rfl) (by go_simp; rfl) ?_
  refine one_ (i := 13) (N := some 49) (bm 15 16383) rfl rfl (one_of HT_.out (by as_aux_lemma => kernel_rfl)) (by as_aux_lemma => decide) (fun K hK => ?_)
  refine goes_ Try.func63 (by as_aux_lemma => kernel_rfl) rfl #[.int .u16 c0.wordV, .int .i64 c1.wordV] (by rfl) rfl rfl (by simp only [List.map_toArray, List.map_cons, List.map_nil]; rfl) ?_
  with_reducible refine (within_c ⟨l0, h0⟩ _).mono ?_
  rintro en x90 ⟨rfl, hb_⟩
  have n0_ := Aside0.mk (PS.Sk.below HP.out hb_)
  clear HP
  have HP := n0_
  clear n0_
  clear hb_
  refine ⟨_, rfl, ?_⟩
  refine hK.out _ _ ⟨(PS.Sk.cell HP.out F0.out hg1 hg2), (PS.Sk.cell HP.out F1.out hg1 hg2), (PS.Sk.at_addr HP.out).1, (PS.Sk.at_count HP.out).1⟩ (fun hHeld => ?_)
  clear hK K
  refine norm_ (a' := ?_) ?_ ?_
  rotate_left
  · show Act.put _ (some 49) _ = _
    simp only [Act.put, List.setIfInBounds_toArray, List.set_cons_zero, List.set_cons_succ, i64_w, i32_w]
    rfl
  refine one_ (i := 14) (N := some 50) (bm 15 32767) rfl rfl (one_of HT_.out (by as_aux_lemma => kernel_rfl)) (by as_aux_lemma => decide) (fun K hK => ?_)
  refine goes_ Try.func44 (by as_aux_lemma => kernel_rfl) rfl #[.pointer (some ⟨g, 0, none⟩), .bool (withinB c0.wordV c1.wordV), .int .i64 7] (by rfl) rfl rfl (by simp only [List.map_toArray, List.map_cons, List.map_nil]; rfl) ?_
  with_reducible refine (PS.Sk.need HP.out (withinB c0.wordV c1.wordV) 7).mono ?_
  rintro en x4 ⟨rfl, hp_⟩
  obtain ⟨c4, ec_⟩ : ∃ z, z = c3.need (withinB c0.wordV c1.wordV) 7 := ⟨_, rfl⟩
  rw [← ec_] at hp_
  have Ec4 := Aside0.mk ec_
  clear ec_
  have n0_ := Aside0.mk hp_
  clear HP hp_
  have HP := n0_
  clear n0_
  refine ⟨_, rfl, ?_⟩
  refine hK.out _ _ ⟨(PS.Sk.cell HP.out F0.out hg1 hg2), (PS.Sk.cell HP.out F1.out hg1 hg2), (PS.Sk.at_addr HP.out).1, (PS.Sk.at_count HP.out).1⟩ (fun hHeld => ?_)
  clear hK K
  refine norm_ (a' := ?_) ?_ ?_
  rotate_left
  · show Act.put _ (some 50) _ = _
    simp only [Act.put, List.setIfInBounds_toArray, List.set_cons_zero, List.set_cons_succ, i64_w, i32_w]
    rfl
  refine done_ (done_of HT_.out (by as_aux_lemma => kernel_rfl)) ?_
  go_wp2
  have eq_ : spanR most m c0 = (c4, { ({ m with addr := c0.wordV } : Msg) with count := c1.wordV }) := by
    rw [Ec4.out, Ec3.out, Ec2.out, Ec1.out]
    rfl
  rw [eq_]
  exact bodyPost_end (results_none rfl _ _ _) rfl (⟨rfl, PS.Sk.over HP.out (HKP.out.alloc _)⟩)
theorem span_0 {wb w0 w : World} {gr g gm : Nat} {c0 : Cu} {m : Msg} (h : PS.Sk wb w0 gr g gm w c0 m) {most : Int} (hmo : 0 ≤ most ∧ most < 65536) (hg : ¬ 1 ≤ c0.wordS.wordV) :
    Calls Try.prog 42 #[.agg #[.pointer (some ⟨g, 0, none⟩), .pointer (some ⟨gm, 0, none⟩)], .int .u16 most] w fun en w' => en = .returned (.tuple #[]) ∧ PS.Sk wb w0 gr g gm w' (spanR most m c0).1 (spanR most m c0).2 := by
  have HMO := Aside0.mk hmo
  clear hmo
  have hlt := PS.Sk.lt h
  have HKP := Aside0.mk h.kp
  have HP := Aside0.mk (PS.Sk.start (PS.St.below h.st (below_alloc (Below.refl _ _) (.cells #[.pointer (some ⟨g, 0, none⟩), .pointer (some ⟨gm, 0, none⟩)] 50))))
  have F0 := Aside0.mk (show (w.alloc (.cells #[.pointer (some ⟨g, 0, none⟩), .pointer (some ⟨gm, 0, none⟩)] 50)).cell? ⟨w.heap.size, 0, none⟩ = some (.pointer (some ⟨g, 0, none⟩)) from (blk_cell (blk_new w (.cells #[.pointer (some ⟨g, 0, none⟩), .pointer (some ⟨gm, 0, none⟩)] 50)) 0).trans rfl)
  have F1 := Aside0.mk (show (w.alloc (.cells #[.pointer (some ⟨g, 0, none⟩), .pointer (some ⟨gm, 0, none⟩)] 50)).cell? ⟨w.heap.size, 1, none⟩ = some (.pointer (some ⟨gm, 0, none⟩)) from (blk_cell (blk_new w (.cells #[.pointer (some ⟨g, 0, none⟩), .pointer (some ⟨gm, 0, none⟩)] 50)) 1).trans rfl)
  have hg1 : w.heap.size ≠ g := by omega
  have hg2 : w.heap.size ≠ gm := by omega
  clear hlt h
  go_enter Try.func42, Try.ntmps42
  go_upto_region 1 with (fail)
  have n0_ := Aside0.mk (PS.Sk.below HP.out (below_drew (Below.refl _ _)))
  clear HP
  have HP := n0_
  clear n0_
  obtain ⟨l0, h0⟩ := Cu.wordV_bd (PS.Sk.good HP.out)
  refine start_ (n := 8) (S := fun w' => w'.cell? ⟨w.heap.size, 0, none⟩ = some (.pointer (some ⟨g, 0, none⟩)) ∧ w'.cell? ⟨w.heap.size, 1, none⟩ = some (.pointer (some ⟨gm, 0, none⟩))) (ds := []) (bm 8 0) (by as_aux_lemma => kernel_rfl) rfl (by as_aux_lemma => kernel_rfl) ⟨(PS.Sk.cell HP.out F0.out hg1 hg2), (PS.Sk.cell HP.out F1.out hg1 hg2)⟩ (fun hHeld => ?_)
  refine with_tabW span.tab1 span.bits1 (fun HT_ HW_ => ?_)
  refine pu_ 0 (some 4) (bm 8 1) HT_ (by as_aux_lemma => kernel_rfl) rfl rfl (fun _ _ _ h => h) (by rfl) (by intro w'; go_simp; with_reducible rfl) (by go_simp; rfl) ?_
  refine pu_ 2 (some 6) (bm 8 5) HT_ (by as_aux_lemma => kernel_rfl) rfl rfl (fun _ _ _ h => h) (by rfl) (by intro w'; go_simp; with_reducible rfl) (by go_simp; rfl) ?_
  refine tk_ 1 (some 5) (bm 8 7) HT_ HW_ hHeld (by as_aux_lemma => kernel_rfl) rfl rfl (fun _ _ _ h => h) (by rfl) (by rintro w' ⟨s0, s1⟩; go_simp; with_reducible rfl) (by go_simp; rfl) ?_
  refine tk_ 3 (some 7) (bm 8 15) HT_ HW_ hHeld (by as_aux_lemma => kernel_rfl) rfl rfl (fun _ _ _ h => h) (by rfl) (by rintro w' ⟨s0, s1⟩; go_simp; with_reducible rfl) (by go_simp; rfl) ?_
  refine one_ (i := 4) (N := some 8) (bm 8 31) rfl rfl (one_of HT_.out (by as_aux_lemma => kernel_rfl)) (by as_aux_lemma => decide) (fun K hK => ?_)
  refine goes_ Try.func46 (by as_aux_lemma => kernel_rfl) rfl #[.pointer (some ⟨g, 0, none⟩)] (by rfl) rfl rfl (by simp only [List.map_toArray, List.map_cons, List.map_nil]; rfl) ?_
  with_reducible refine (PS.Sk.word HP.out).mono ?_
  rintro en x1 ⟨rfl, hp_⟩
  obtain ⟨c1, ec_⟩ : ∃ z, z = c0.wordS := ⟨_, rfl⟩
  rw [← ec_] at hp_
  have Ec1 := Aside0.mk ec_
  clear ec_
  obtain ⟨kaddr, faddr⟩ := PS.Sk.at_addr hp_
  have n0_ := Aside0.mk hp_
  clear HP hp_
  have HP := n0_
  clear n0_
  refine ⟨_, rfl, ?_⟩
  refine hK.out _ _ ⟨(PS.Sk.cell HP.out F0.out hg1 hg2), (PS.Sk.cell HP.out F1.out hg1 hg2)⟩ (fun hHeld => ?_)
  clear hK K
  refine norm_ (a' := ?_) ?_ ?_
  rotate_left
  · show Act.put _ (some 8) _ = _
    simp only [Act.put, List.setIfInBounds_toArray, List.set_cons_zero, List.set_cons_succ, i64_w, i32_w]
    rfl
  refine pu_ 5 (some 9) (bm 8 63) HT_ (by as_aux_lemma => kernel_rfl) rfl rfl (fun _ _ _ h => h) (by rfl) (by intro w'; go_simp; with_reducible rfl) (by go_simp; rfl) ?_
  refine pu_ 6 (some 10) (bm 8 127) HT_ (by as_aux_lemma => kernel_rfl) rfl rfl (fun _ _ _ h => h) (by rfl) (by intro w'; go_simp; with_reducible rfl) (by go_simp; rfl) ?_
  refine one_ (i := 7) (N := none) (bm 8 255) rfl rfl (one_of HT_.out (by as_aux_lemma => kernel_rfl)) (by as_aux_lemma => decide) (fun K hK => ?_)
  refine skip_ (w1 := ?_) (by rfl) rfl ?_ ?_
  rotate_left
  · go_simp
    rfl
  have hp_ := HP.out.put_addr ⟨l0, h0⟩
  have n0_ := Aside0.mk hp_
  clear HP hp_
  have HP := n0_
  clear n0_
  refine hK.out _ _ ⟨(PS.Sk.cell HP.out F0.out hg1 hg2), (PS.Sk.cell HP.out F1.out hg1 hg2)⟩ (fun hHeld => ?_)
  clear hK K
  refine done_ (done_of HT_.out (by as_aux_lemma => kernel_rfl)) ?_
  clear kaddr faddr
  go_upto_region 2 with (fail)
  have n0_ := Aside0.mk (PS.Sk.below HP.out (below_drew (Below.refl _ _)))
  clear HP
  have HP := n0_
  clear n0_
  obtain ⟨l1, h1⟩ := Cu.wordV_bd (PS.Sk.good HP.out)
  refine start_ (n := 8) (S := fun w' => w'.cell? ⟨w.heap.size, 0, none⟩ = some (.pointer (some ⟨g, 0, none⟩)) ∧ w'.cell? ⟨w.heap.size, 1, none⟩ = some (.pointer (some ⟨gm, 0, none⟩))) (ds := []) (bm 8 0) (by as_aux_lemma => kernel_rfl) rfl (by as_aux_lemma => kernel_rfl) ⟨(PS.Sk.cell HP.out F0.out hg1 hg2), (PS.Sk.cell HP.out F1.out hg1 hg2)⟩ (fun hHeld => ?_)
  refine with_tabW span.tab2 span.bits2 (fun HT_ HW_ => ?_)
  refine pu_ 0 (some 11) (bm 8 1) HT_ (by as_aux_lemma => kernel_rfl) rfl rfl (fun _ _ _ h => h) (by rfl) (by intro w'; go_simp; with_reducible rfl) (by go_simp; rfl) ?_
  refine pu_ 2 (some 13) (bm 8 5) HT_ (by as_aux_lemma => kernel_rfl) rfl rfl (fun _ _ _ h => h) (by rfl) (by intro w'; go_simp; with_reducible rfl) (by go_simp; rfl) ?_
  refine tk_ 1 (some 12) (bm 8 7) HT_ HW_ hHeld (by as_aux_lemma => kernel_rfl) rfl rfl (fun _ _ _ h => h) (by rfl) (by rintro w' ⟨s0, s1⟩; go_simp; with_reducible rfl) (by go_simp; rfl) ?_
  refine tk_ 3 (some 14) (bm 8 15) HT_ HW_ hHeld (by as_aux_lemma => kernel_rfl) rfl rfl (fun _ _ _ h => h) (by rfl) (by rintro w' ⟨s0, s1⟩; go_simp; with_reducible rfl) (by go_simp; rfl) ?_
  refine one_ (i := 4) (N := some 15) (bm 8 31) rfl rfl (one_of HT_.out (by as_aux_lemma => kernel_rfl)) (by as_aux_lemma => decide) (fun K hK => ?_)
  refine goes_ Try.func46 (by as_aux_lemma => kernel_rfl) rfl #[.pointer (some ⟨g, 0, none⟩)] (by rfl) rfl rfl (by simp only [List.map_toArray, List.map_cons, List.map_nil]; rfl) ?_
  with_reducible refine (PS.Sk.word HP.out).mono ?_
  rintro en x2 ⟨rfl, hp_⟩
  obtain ⟨c2, ec_⟩ : ∃ z, z = c1.wordS := ⟨_, rfl⟩
  rw [← ec_] at hp_
  have Ec2 := Aside0.mk ec_
  clear ec_
  obtain ⟨kcount, fcount⟩ := PS.Sk.at_count hp_
  have n0_ := Aside0.mk hp_
  clear HP hp_
  have HP := n0_
  clear n0_
  refine ⟨_, rfl, ?_⟩
  refine hK.out _ _ ⟨(PS.Sk.cell HP.out F0.out hg1 hg2), (PS.Sk.cell HP.out F1.out hg1 hg2)⟩ (fun hHeld => ?_)
  clear hK K
  refine norm_ (a' := ?_) ?_ ?_
  rotate_left
  · show Act.put _ (some 15) _ = _
    simp only [Act.put, List.setIfInBounds_toArray, List.set_cons_zero, List.set_cons_succ, i64_w, i32_w]
    rfl
  refine pu_ 5 (some 16) (bm 8 63) HT_ (by as_aux_lemma => kernel_rfl) rfl rfl (fun _ _ _ h => h) (by rfl) (by intro w'; go_simp; with_reducible rfl) (by go_simp; rfl) ?_
  refine pu_ 6 (some 17) (bm 8 127) HT_ (by as_aux_lemma => kernel_rfl) rfl rfl (fun _ _ _ h => h) (by rfl) (by intro w'; go_simp; with_reducible rfl) (by go_simp; rfl) ?_
  refine one_ (i := 7) (N := none) (bm 8 255) rfl rfl (one_of HT_.out (by as_aux_lemma => kernel_rfl)) (by as_aux_lemma => decide) (fun K hK => ?_)
  refine skip_ (w1 := ?_) (by rfl) rfl ?_ ?_
  rotate_left
  · go_simp
    rfl
  have hp_ := HP.out.put_count ⟨l1, h1⟩
  have n0_ := Aside0.mk hp_
  clear HP hp_
  have HP := n0_
  clear n0_
  refine hK.out _ _ ⟨(PS.Sk.cell HP.out F0.out hg1 hg2), (PS.Sk.cell HP.out F1.out hg1 hg2)⟩ (fun hHeld => ?_)
  clear hK K
  refine done_ (done_of HT_.out (by as_aux_lemma => kernel_rfl)) ?_
  clear kcount fcount
  go_upto_region 3 with (fail)
  have hge : decide (1 ≤ c1.wordV) = false := by rw [Ec1.out]; exact decide_eq_false hg
  have hge2 : decide (c1.wordV ≥ 1) = false := hge
  have EB := Aside0.mk (show (decide (1 ≤ c1.wordV) && decide (c1.wordV ≤ most)) = (false) from by rw [hge]; rfl)
  have n0_ := Aside0.mk (PS.Sk.below HP.out (below_drew (Below.refl _ _)))
  clear HP
  have HP := n0_
  clear n0_
  refine start_ (n := 18) (S := fun w' => w'.cell? ⟨w.heap.size, 0, none⟩ = some (.pointer (some ⟨g, 0, none⟩)) ∧ w'.cell? ⟨w.heap.size, 1, none⟩ = some (.pointer (some ⟨gm, 0, none⟩)) ∧ w'.cell? ⟨gm, 3, none⟩ = some (.int .u16 c1.wordV)) (ds := []) (bm 18 0) (by as_aux_lemma => kernel_rfl) rfl (by as_aux_lemma => kernel_rfl) ⟨(PS.Sk.cell HP.out F0.out hg1 hg2), (PS.Sk.cell HP.out F1.out hg1 hg2), (PS.Sk.at_count HP.out).1⟩ (fun hHeld => ?_)
  refine with_tabW span.tab3 span.bits3 (fun HT_ HW_ => ?_)
  refine pu_ 0 (some 18) (bm 18 1) HT_ (by as_aux_lemma => kernel_rfl) rfl rfl (fun _ _ _ h => h) (by rfl) (by intro w'; go_simp; with_reducible rfl) (by go_simp; rfl) ?_
  refine pu_ 2 (some 20) (bm 18 5) HT_ (by as_aux_lemma => kernel_rfl) rfl rfl (fun _ _ _ h => h) (by rfl) (by intro w'; go_simp; with_reducible rfl) (by go_simp; rfl) ?_
  refine tk_ 1 (some 19) (bm 18 7) HT_ HW_ hHeld (by as_aux_lemma => kernel_rfl) rfl rfl (fun _ _ _ h => h) (by rfl) (by rintro w' ⟨s0, s1, s2⟩; go_simp; with_reducible rfl) (by go_simp; rfl) ?_
  refine tk_ 3 (some 21) (bm 18 15) HT_ HW_ hHeld (by as_aux_lemma => kernel_rfl) rfl rfl (fun _ _ _ h => h) (by rfl) (by rintro w' ⟨s0, s1, s2⟩; go_simp; with_reducible rfl) (by go_simp; rfl) ?_
  refine pu_ 4 (some 22) (bm 18 31) HT_ (by as_aux_lemma => kernel_rfl) rfl rfl (fun _ _ _ h => h) (by rfl) (by intro w'; go_simp; with_reducible rfl) (by go_simp; rfl) ?_
  refine pu_ 5 (some 23) (bm 18 63) HT_ (by as_aux_lemma => kernel_rfl) rfl rfl (fun _ _ _ h => h) (by rfl) (by intro w'; go_simp; with_reducible rfl) (by go_simp; rfl) ?_
  refine tk_ 6 (some 24) (bm 18 127) HT_ HW_ hHeld (by as_aux_lemma => kernel_rfl) rfl rfl (fun _ _ _ h => h) (by rfl) (by rintro w' ⟨s0, s1, s2⟩; go_simp; with_reducible rfl) (by go_simp; rfl) ?_
  refine pu_ 7 (some 25) (bm 18 255) HT_ (by as_aux_lemma => kernel_rfl) rfl rfl (fun _ _ _ h => h) (by rfl) (by intro w'; go_simp; with_reducible rfl) (by go_simp; rfl) ?_
  refine pu_ 8 (some 26) (bm 18 511) HT_ (by as_aux_lemma => kernel_rfl) rfl rfl (fun _ _ _ h => h) (by rfl) (by intro w'; go_simp; with_reducible rfl) (by go_simp; rfl) ?_
  refine po_ 9 (some 27) (bm 18 1023) HT_ (by as_aux_lemma => kernel_rfl) rfl rfl (fun _ _ _ h => h) (by rfl) (by go_simp; rfl) ?_
  refine po_ 10 (some 28) (bm 18 2047) HT_ (by as_aux_lemma => kernel_rfl) rfl rfl (fun _ _ _ h => h) (by rfl) (by go_simp; rfl) ?_
  refine po_ 11 (some 29) (bm 18 4095) HT_ (by as_aux_lemma => kernel_rfl) rfl rfl (fun _ _ _ h => h) (by rfl) (by go_simp; rfl) ?_
  refine po_ 12 (some 30) (bm 18 8191) HT_ (by as_aux_lemma => kernel_rfl) rfl rfl (fun _ _ _ h => h) (by rfl) (by go_simp; rfl) ?_
  refine po_ 13 (some 31) (bm 18 16383) HT_ (by as_aux_lemma => kernel_rfl) rfl rfl (fun _ _ _ h => h) (by rfl) (by go_simp; rfl) ?_
  refine po_ 14 (some 32) (bm 18 32767) HT_ (by as_aux_lemma => kernel_rfl) rfl rfl (fun _ _ _ h => h) (by rfl) (by go_simp; rfl) ?_
  refine po_ 15 (some 33) (bm 18 65535) HT_ (by as_aux_lemma => kernel_rfl) rfl rfl (fun _ _ _ h => h) (by rfl) (by go_simp; rfl) ?_
  refine pu_ 16 (some 34) (bm 18 131071) HT_ (by as_aux_lemma => kernel_rfl) rfl rfl (fun _ _ _ h => h) (by rfl) (by intro w'; go_simp; with_reducible rfl) (by go_simp; rfl) ?_
  refine one_ (i := 17) (N := some 35) (bm 18 262143) rfl rfl (one_of HT_.out (by as_aux_lemma => kernel_rfl)) (by as_aux_lemma => decide) (fun K hK => ?_)
  refine goes_ Try.func44 (by as_aux_lemma => kernel_rfl) rfl #[.pointer (some ⟨g, 0, none⟩), .bool (false), .int .i64 5] (by rfl) rfl rfl (by simp only [List.map_toArray, List.map_cons, List.map_nil]; rfl) ?_
  with_reducible refine (PS.Sk.need HP.out (false) 5).mono ?_
  rintro en x3 ⟨rfl, hp_⟩
  rw [← EB.out] at hp_
  obtain ⟨c3, ec_⟩ : ∃ z, z = c2.need (decide (1 ≤ c1.wordV) && decide (c1.wordV ≤ most)) 5 := ⟨_, rfl⟩
  rw [← ec_] at hp_
  have Ec3 := Aside0.mk ec_
  clear ec_
  have n0_ := Aside0.mk hp_
  clear HP hp_
  have HP := n0_
  clear n0_
  refine ⟨_, rfl, ?_⟩
  refine hK.out _ _ ⟨(PS.Sk.cell HP.out F0.out hg1 hg2), (PS.Sk.cell HP.out F1.out hg1 hg2), (PS.Sk.at_count HP.out).1⟩ (fun hHeld => ?_)
  clear hK K
  refine norm_ (a' := ?_) ?_ ?_
  rotate_left
  · show Act.put _ (some 35) _ = _
    simp only [Act.put, List.setIfInBounds_toArray, List.set_cons_zero, List.set_cons_succ, i64_w, i32_w]
    rfl
  refine done_ (done_of HT_.out (by as_aux_lemma => kernel_rfl)) ?_
  clear hge hge2
  go_upto_region 4 with (fail)
  have wk := wrap64_id (x := c1.wordV) (by omega) (by omega)
  have wk2 : IntKind.i64.wrap c1.wordV = c1.wordV := by rw [i64_w]; exact wk
  have n0_ := Aside0.mk (PS.Sk.below HP.out (below_drew (Below.refl _ _)))
  clear HP
  have HP := n0_
  clear n0_
  refine start_ (n := 15) (S := fun w' => w'.cell? ⟨w.heap.size, 0, none⟩ = some (.pointer (some ⟨g, 0, none⟩)) ∧ w'.cell? ⟨w.heap.size, 1, none⟩ = some (.pointer (some ⟨gm, 0, none⟩)) ∧ w'.cell? ⟨gm, 2, none⟩ = some (.int .u16 c0.wordV) ∧ w'.cell? ⟨gm, 3, none⟩ = some (.int .u16 c1.wordV)) (ds := []) (bm 15 0) (by as_aux_lemma => kernel_rfl) rfl (by as_aux_lemma => kernel_rfl) ⟨(PS.Sk.cell HP.out F0.out hg1 hg2), (PS.Sk.cell HP.out F1.out hg1 hg2), (PS.Sk.at_addr HP.out).1, (PS.Sk.at_count HP.out).1⟩ (fun hHeld => ?_)
  refine with_tabW span.tab4 span.bits4 (fun HT_ HW_ => ?_)
  refine pu_ 0 (some 36) (bm 15 1) HT_ (by as_aux_lemma => kernel_rfl) rfl rfl (fun _ _ _ h => h) (by rfl) (by intro w'; go_simp; with_reducible rfl) (by go_simp; rfl) ?_
  refine pu_ 2 (some 38) (bm 15 5) HT_ (by as_aux_lemma => kernel_rfl) rfl rfl (fun _ _ _ h => h) (by rfl) (by intro w'; go_simp; with_reducible rfl) (by go_simp; rfl) ?_
  refine pu_ 7 (some 43) (bm 15 133) HT_ (by as_aux_lemma => kernel_rfl) rfl rfl (fun _ _ _ h => h) (by rfl) (by intro w'; go_simp; with_reducible rfl) (by go_simp; rfl) ?_
  refine tk_ 1 (some 37) (bm 15 135) HT_ HW_ hHeld (by as_aux_lemma => kernel_rfl) rfl rfl (fun _ _ _ h => h) (by rfl) (by rintro w' ⟨s0, s1, s2, s3⟩; go_simp; with_reducible rfl) (by go_simp; rfl) ?_
  refine tk_ 3 (some 39) (bm 15 143) HT_ HW_ hHeld (by as_aux_lemma => kernel_rfl) rfl rfl (fun _ _ _ h => h) (by rfl) (by rintro w' ⟨s0, s1, s2, s3⟩; go_simp; with_reducible rfl) (by go_simp; rfl) ?_
  refine pu_ 4 (some 40) (bm 15 159) HT_ (by as_aux_lemma => kernel_rfl) rfl rfl (fun _ _ _ h => h) (by rfl) (by intro w'; go_simp; with_reducible rfl) (by go_simp; rfl) ?_
  refine pu_ 5 (some 41) (bm 15 191) HT_ (by as_aux_lemma => kernel_rfl) rfl rfl (fun _ _ _ h => h) (by rfl) (by intro w'; go_simp; with_reducible rfl) (by go_simp; rfl) ?_
  refine tk_ 6 (some 42) (bm 15 255) HT_ HW_ hHeld (by as_aux_lemma => kernel_rfl) rfl rfl (fun _ _ _ h => h) (by rfl) (by rintro w' ⟨s0, s1, s2, s3⟩; go_simp; with_reducible rfl) (by go_simp; rfl) ?_
  refine tk_ 8 (some 44) (bm 15 511) HT_ HW_ hHeld (by as_aux_lemma => kernel_rfl) rfl rfl (fun _ _ _ h => h) (by rfl) (by rintro w' ⟨s0, s1, s2, s3⟩; go_simp; with_reducible rfl) (by go_simp; rfl) ?_
  refine pu_ 9 (some 45) (bm 15 1023) HT_ (by as_aux_lemma => kernel_rfl) rfl rfl (fun _ _ _ h => h) (by rfl) (by intro w'; go_simp; with_reducible rfl) (by go_simp; rfl) ?_
  refine pu_ 10 (some 46) (bm 15 2047) HT_ (by as_aux_lemma => kernel_rfl) rfl rfl (fun _ _ _ h => h) (by rfl) (by intro w'; go_simp; with_reducible rfl) (by go_simp; rfl) ?_
  refine tk_ 11 (some 47) (bm 15 4095) HT_ HW_ hHeld (by as_aux_lemma => kernel_rfl) rfl rfl (fun _ _ _ h => h) (by rfl) (by rintro w' ⟨s0, s1, s2, s3⟩; go_simp; with_reducible rfl) (by go_simp; rfl) ?_
  refine pu_ 12 (some 48) (bm 15 8191) HT_ (by as_aux_lemma => kernel_rfl) rfl rfl (fun _ _ _ h => h) (by rfl) (by intro w'; go_simp; with_reducible rfl) (by go_simp; rfl) ?_
  refine one_ (i := 13) (N := some 49) (bm 15 16383) rfl rfl (one_of HT_.out (by as_aux_lemma => kernel_rfl)) (by as_aux_lemma => decide) (fun K hK => ?_)
  refine goes_ Try.func63 (by as_aux_lemma => kernel_rfl) rfl #[.int .u16 c0.wordV, .int .i64 c1.wordV] (by rfl) rfl rfl (by simp only [List.map_toArray, List.map_cons, List.map_nil]; rfl) ?_
  with_reducible refine (within_c ⟨l0, h0⟩ _).mono ?_
  rintro en x90 ⟨rfl, hb_⟩
  have n0_ := Aside0.mk (PS.Sk.below HP.out hb_)
  clear HP
  have HP := n0_
  clear n0_
  clear hb_
  refine ⟨_, rfl, ?_⟩
  refine hK.out _ _ ⟨(PS.Sk.cell HP.out F0.out hg1 hg2), (PS.Sk.cell HP.out F1.out hg1 hg2), (PS.Sk.at_addr HP.out).1, (PS.Sk.at_count HP.out).1⟩ (fun hHeld => ?_)
  clear hK K
  refine norm_ (a' := ?_) ?_ ?_
  rotate_left
  · show Act.put _ (some 49) _ = _
    simp only [Act.put, List.setIfInBounds_toArray, List.set_cons_zero, List.set_cons_succ, i64_w, i32_w]
    rfl
  refine one_ (i := 14) (N := some 50) (bm 15 32767) rfl rfl (one_of HT_.out (by as_aux_lemma => kernel_rfl)) (by as_aux_lemma => decide) (fun K hK => ?_)
  refine goes_ Try.func44 (by as_aux_lemma => kernel_rfl) rfl #[.pointer (some ⟨g, 0, none⟩), .bool (withinB c0.wordV c1.wordV), .int .i64 7] (by rfl) rfl rfl (by simp only [List.map_toArray, List.map_cons, List.map_nil]; rfl) ?_
  with_reducible refine (PS.Sk.need HP.out (withinB c0.wordV c1.wordV) 7).mono ?_
  rintro en x4 ⟨rfl, hp_⟩
  obtain ⟨c4, ec_⟩ : ∃ z, z = c3.need (withinB c0.wordV c1.wordV) 7 := ⟨_, rfl⟩
  rw [← ec_] at hp_
  have Ec4 := Aside0.mk ec_
  clear ec_
  have n0_ := Aside0.mk hp_
  clear HP hp_
  have HP := n0_
  clear n0_
  refine ⟨_, rfl, ?_⟩
  refine hK.out _ _ ⟨(PS.Sk.cell HP.out F0.out hg1 hg2), (PS.Sk.cell HP.out F1.out hg1 hg2), (PS.Sk.at_addr HP.out).1, (PS.Sk.at_count HP.out).1⟩ (fun hHeld => ?_)
  clear hK K
  refine norm_ (a' := ?_) ?_ ?_
  rotate_left
  · show Act.put _ (some 50) _ = _
    simp only [Act.put, List.setIfInBounds_toArray, List.set_cons_zero, List.set_cons_succ, i64_w, i32_w]
    rfl
  refine done_ (done_of HT_.out (by as_aux_lemma => kernel_rfl)) ?_
  go_wp2
  have eq_ : spanR most m c0 = (c4, { ({ m with addr := c0.wordV } : Msg) with count := c1.wordV }) := by
    rw [Ec4.out, Ec3.out, Ec2.out, Ec1.out]
    rfl
  rw [eq_]
  exact bodyPost_end (results_none rfl _ _ _) rfl (⟨rfl, PS.Sk.over HP.out (HKP.out.alloc _)⟩)
theorem span_any {wb w0 w : World} {gr g gm : Nat} {c0 : Cu} {m : Msg} (h : PS.Sk wb w0 gr g gm w c0 m) {most : Int} (hmo : 0 ≤ most ∧ most < 65536) :
    Calls Try.prog 42 #[.agg #[.pointer (some ⟨g, 0, none⟩), .pointer (some ⟨gm, 0, none⟩)], .int .u16 most] w fun en w' => en = .returned (.tuple #[]) ∧ PS.Sk wb w0 gr g gm w' (spanR most m c0).1 (spanR most m c0).2 := by
  by_cases hg : 1 ≤ c0.wordS.wordV
  · exact span_1 h hmo hg
  · exact span_0 h hmo hg
theorem asksRead_any {wb w0 w : World} {gr g gm : Nat} {c0 : Cu} {m : Msg} (h : PS.Sk wb w0 gr g gm w c0 m) :
    Calls Try.prog 21 #[.agg #[.pointer (some ⟨g, 0, none⟩), .pointer (some ⟨gm, 0, none⟩)]] w fun en w' => en = .returned (.tuple #[]) ∧ PS.Sk wb w0 gr g gm w' (spanR 2000 m c0).1 (spanR 2000 m c0).2 := by
  have hlt := PS.Sk.lt h
  have HKP := Aside0.mk h.kp
  have HP := Aside0.mk (PS.Sk.start (PS.St.below h.st (below_alloc (Below.refl _ _) (.cells #[.pointer (some ⟨g, 0, none⟩), .pointer (some ⟨gm, 0, none⟩)] 50))))
  have F0 := Aside0.mk (show (w.alloc (.cells #[.pointer (some ⟨g, 0, none⟩), .pointer (some ⟨gm, 0, none⟩)] 50)).cell? ⟨w.heap.size, 0, none⟩ = some (.pointer (some ⟨g, 0, none⟩)) from (blk_cell (blk_new w (.cells #[.pointer (some ⟨g, 0, none⟩), .pointer (some ⟨gm, 0, none⟩)] 50)) 0).trans rfl)
  have F1 := Aside0.mk (show (w.alloc (.cells #[.pointer (some ⟨g, 0, none⟩), .pointer (some ⟨gm, 0, none⟩)] 50)).cell? ⟨w.heap.size, 1, none⟩ = some (.pointer (some ⟨gm, 0, none⟩)) from (blk_cell (blk_new w (.cells #[.pointer (some ⟨g, 0, none⟩), .pointer (some ⟨gm, 0, none⟩)] 50)) 1).trans rfl)
  have hg1 : w.heap.size ≠ g := by omega
  have hg2 : w.heap.size ≠ gm := by omega
  clear hlt h
  go_enter Try.func21, Try.ntmps21
  have qF0 := PS.Sk.cell HP.out F0.out hg1 hg2
  have qF1 := PS.Sk.cell HP.out F1.out hg1 hg2
  go_wp2_with (first | (go_at_call 42; (with_reducible refine (span_any HP.out (most := 2000) (by decide)).mono ?_); rintro en x1 ⟨rfl, hp_⟩; have n0_ := Aside0.mk hp_; clear HP hp_; have HP := n0_; clear n0_))
  exact bodyPost_end (results_none rfl _ _ _) rfl (⟨rfl, PS.Sk.over HP.out (HKP.out.alloc _)⟩)
theorem done_any {wb w0 w : World} {gr g gm : Nat} {c0 : Cu} {m : Msg} (h : PS.Sk wb w0 gr g gm w c0 m) :
    Calls Try.prog 25 #[.agg #[.pointer (some ⟨g, 0, none⟩), .pointer (some ⟨gm, 0, none⟩)]] w fun en w' => en = .returned (.tuple #[]) ∧ PS.Sk wb w0 gr g gm w' (spanR 1968 m c0).1 (spanR 1968 m c0).2 := by
  have hlt := PS.Sk.lt h
  have HKP := Aside0.mk h.kp
  have HP := Aside0.mk (PS.Sk.start (PS.St.below h.st (below_alloc (Below.refl _ _) (.cells #[.pointer (some ⟨g, 0, none⟩), .pointer (some ⟨gm, 0, none⟩)] 50))))
  have F0 := Aside0.mk (show (w.alloc (.cells #[.pointer (some ⟨g, 0, none⟩), .pointer (some ⟨gm, 0, none⟩)] 50)).cell? ⟨w.heap.size, 0, none⟩ = some (.pointer (some ⟨g, 0, none⟩)) from (blk_cell (blk_new w (.cells #[.pointer (some ⟨g, 0, none⟩), .pointer (some ⟨gm, 0, none⟩)] 50)) 0).trans rfl)
  have F1 := Aside0.mk (show (w.alloc (.cells #[.pointer (some ⟨g, 0, none⟩), .pointer (some ⟨gm, 0, none⟩)] 50)).cell? ⟨w.heap.size, 1, none⟩ = some (.pointer (some ⟨gm, 0, none⟩)) from (blk_cell (blk_new w (.cells #[.pointer (some ⟨g, 0, none⟩), .pointer (some ⟨gm, 0, none⟩)] 50)) 1).trans rfl)
  have hg1 : w.heap.size ≠ g := by omega
  have hg2 : w.heap.size ≠ gm := by omega
  clear hlt h
  go_enter Try.func25, Try.ntmps25
  have qF0 := PS.Sk.cell HP.out F0.out hg1 hg2
  have qF1 := PS.Sk.cell HP.out F1.out hg1 hg2
  go_wp2_with (first | (go_at_call 42; (with_reducible refine (span_any HP.out (most := 1968) (by decide)).mono ?_); rintro en x1 ⟨rfl, hp_⟩; have n0_ := Aside0.mk hp_; clear HP hp_; have HP := n0_; clear n0_))
  exact bodyPost_end (results_none rfl _ _ _) rfl (⟨rfl, PS.Sk.over HP.out (HKP.out.alloc _)⟩)
def told.T3 : Bool × List (List Nat × List Nat) := (true, [([], []), ([0], [0]), ([], []), ([2], [2]), ([], []), ([4], [4]), ([3, 5], [3, 5]), ([1, 0, 1, 2, 3, 4, 5, 6], [1]), ([7, 0, 1, 2, 3, 4, 5, 6], [7]), ([8, 6, 6, 0, 1, 2, 3, 4, 5, 6], [6, 8])])
def told.B3 : List Nat := [0, 1, 0, 4, 0, 16, 60, 127, 255, 511]
theorem told.tab3 : rtab .any (opsOf Try.f22 3) = told.T3 := by kernel_rfl
theorem told.bits3 : waitsOk told.T3.2 told.B3 = true := by kernel_rfl
theorem told_1 {wb w0 w : World} {gr g gm : Nat} {c0 : Cu} {m : Msg} (h : PS.Sk wb w0 gr g gm w c0 m) (hg : 1 ≤ c0.byteV) :
    Calls Try.prog 22 #[.agg #[.pointer (some ⟨g, 0, none⟩), .pointer (some ⟨gm, 0, none⟩)]] w fun en w' => en = .returned (.tuple #[]) ∧ PS.Sk wb w0 gr g gm w' (toldR m c0).1 (toldR m c0).2 := by
  have HG := Aside0.mk hg
  clear hg
  have hlt := PS.Sk.lt h
  have HKP := Aside0.mk h.kp
  have HP := Aside0.mk (PS.Sk.start (PS.St.below h.st (below_alloc (Below.refl _ _) (.cells #[.pointer (some ⟨g, 0, none⟩), .pointer (some ⟨gm, 0, none⟩)] 50))))
  have F0 := Aside0.mk (show (w.alloc (.cells #[.pointer (some ⟨g, 0, none⟩), .pointer (some ⟨gm, 0, none⟩)] 50)).cell? ⟨w.heap.size, 0, none⟩ = some (.pointer (some ⟨g, 0, none⟩)) from (blk_cell (blk_new w (.cells #[.pointer (some ⟨g, 0, none⟩), .pointer (some ⟨gm, 0, none⟩)] 50)) 0).trans rfl)
  have F1 := Aside0.mk (show (w.alloc (.cells #[.pointer (some ⟨g, 0, none⟩), .pointer (some ⟨gm, 0, none⟩)] 50)).cell? ⟨w.heap.size, 1, none⟩ = some (.pointer (some ⟨gm, 0, none⟩)) from (blk_cell (blk_new w (.cells #[.pointer (some ⟨g, 0, none⟩), .pointer (some ⟨gm, 0, none⟩)] 50)) 1).trans rfl)
  have hg1 : w.heap.size ≠ g := by omega
  have hg2 : w.heap.size ≠ gm := by omega
  clear hlt h
  go_enter Try.func22, Try.ntmps22
  have qF0 := PS.Sk.cell HP.out F0.out hg1 hg2
  go_upto_region 2 with (first | (go_at_call 43; obtain ⟨l0, h0⟩ := Cu.byteV_bd (PS.Sk.good HP.out); (with_reducible refine (PS.Sk.byte HP.out).mono ?_); rintro en x1 ⟨rfl, hp_⟩; obtain ⟨c1, ec_⟩ : ∃ z, z = c0.byteS := ⟨_, rfl⟩; rw [← ec_] at hp_; have Ec1 := Aside0.mk ec_; clear ec_; have n0_ := Aside0.mk hp_; clear HP hp_; have HP := n0_; clear n0_))
  clear qF0
  have qF0 := PS.Sk.cell HP.out F0.out hg1 hg2
  have hge : decide (1 ≤ c0.byteV) = true := decide_eq_true HG.out
  have hge2 : decide (c0.byteV ≥ 1) = true := hge
  have EB := Aside0.mk (show (decide (1 ≤ c0.byteV) && decide (c0.byteV ≤ 250)) = (decide (c0.byteV ≤ 250)) from by rw [hge]; rfl)
  go_upto_region 3 with (first | (go_at_call 44; (with_reducible refine (PS.Sk.need HP.out (decide (c0.byteV ≤ 250)) 5).mono ?_); rintro en x2 ⟨rfl, hp_⟩; rw [← EB.out] at hp_; obtain ⟨c2, ec_⟩ : ∃ z, z = c1.need (decide (1 ≤ c0.byteV) && decide (c0.byteV ≤ 250)) 5 := ⟨_, rfl⟩; rw [← ec_] at hp_; have Ec2 := Aside0.mk ec_; clear ec_; have n0_ := Aside0.mk hp_; clear HP hp_; have HP := n0_; clear n0_))
  clear qF0
  clear hge hge2
  have HBY := Aside0.mk (Cu.bytes_bytesV (PS.Sk.good HP.out) (c0.byteV))
  have wk2 : IntKind.i64.wrap c0.byteV = c0.byteV := by rw [i64_w]; exact wrap64_id (by omega) (by omega)
  have n0_ := Aside0.mk (PS.Sk.below HP.out (below_drew (Below.refl _ _)))
  clear HP
  have HP := n0_
  clear n0_
  refine start_ (n := 10) (S := fun w' => w'.cell? ⟨w.heap.size, 0, none⟩ = some (.pointer (some ⟨g, 0, none⟩)) ∧ w'.cell? ⟨w.heap.size, 1, none⟩ = some (.pointer (some ⟨gm, 0, none⟩))) (ds := []) (bm 10 0) (by as_aux_lemma => kernel_rfl) rfl (by as_aux_lemma => kernel_rfl) ⟨(PS.Sk.cell HP.out F0.out hg1 hg2), (PS.Sk.cell HP.out F1.out hg1 hg2)⟩ (fun hHeld => ?_)
  refine with_tabW told.tab3 told.bits3 (fun HT_ HW_ => ?_)
  refine pu_ 0 (some 15) (bm 10 1) HT_ (by as_aux_lemma => kernel_rfl) rfl rfl (fun _ _ _ h => h) (by rfl) (by intro w'; go_simp; with_reducible rfl) (by go_simp; rfl) ?_
  refine pu_ 2 (some 17) (bm 10 5) HT_ (by as_aux_lemma => kernel_rfl) rfl rfl (fun _ _ _ h => h) (by rfl) (by intro w'; go_simp; with_reducible rfl) (by go_simp; rfl) ?_
  refine pu_ 4 (some 19) (bm 10 21) HT_ (by as_aux_lemma => kernel_rfl) rfl rfl (fun _ _ _ h => h) (by rfl) (by intro w'; go_simp; with_reducible rfl) (by go_simp; rfl) ?_
  refine pu_ 5 (some 20) (bm 10 53) HT_ (by as_aux_lemma => kernel_rfl) rfl rfl (fun _ _ _ h => h) (by rfl) (by intro w'; go_simp; with_reducible rfl) (by go_simp; rfl) ?_
  refine tk_ 1 (some 16) (bm 10 55) HT_ HW_ hHeld (by as_aux_lemma => kernel_rfl) rfl rfl (fun _ _ _ h => h) (by rfl) (by rintro w' ⟨s0, s1⟩; go_simp; with_reducible rfl) (by go_simp; rfl) ?_
  refine tk_ 3 (some 18) (bm 10 63) HT_ HW_ hHeld (by as_aux_lemma => kernel_rfl) rfl rfl (fun _ _ _ h => h) (by rfl) (by rintro w' ⟨s0, s1⟩; go_simp; with_reducible rfl) (by go_simp; rfl) ?_
  refine one_ (i := 6) (N := some 21) (bm 10 127) rfl rfl (one_of HT_.out (by as_aux_lemma => kernel_rfl)) (by as_aux_lemma => decide) (fun K hK => ?_)
  refine goes_ Try.func45 (by as_aux_lemma => kernel_rfl) rfl #[.pointer (some ⟨g, 0, none⟩), .int .i64 c0.byteV] (by rfl) rfl rfl (by simp only [List.map_toArray, List.map_cons, List.map_nil]; rfl) ?_
  with_reducible refine (PS.Sk.bytes HP.out (c0.byteV)).mono ?_
  rintro en x3 ⟨A5, n5, rfl, hz_, hr_, hp_⟩
  obtain ⟨c3, ec_⟩ : ∃ z, z = c2.bytesS (c0.byteV) := ⟨_, rfl⟩
  rw [← ec_] at hp_
  have Ec3 := Aside0.mk ec_
  clear ec_
  have R5 := Aside0.mk hr_
  have R5z := Aside0.mk hz_
  clear hr_ hz_
  have n0_ := Aside0.mk hp_
  clear HP hp_
  have HP := n0_
  clear n0_
  obtain ⟨Ad, nd, kd, fd⟩ := PS.Sk.at_data HP.out
  refine ⟨_, rfl, ?_⟩
  refine hK.out _ _ ⟨(PS.Sk.cell HP.out F0.out hg1 hg2), (PS.Sk.cell HP.out F1.out hg1 hg2)⟩ (fun hHeld => ?_)
  clear hK K
  refine norm_ (a' := ?_) ?_ ?_
  rotate_left
  · show Act.put _ (some 21) _ = _
    simp only [Act.put, List.setIfInBounds_toArray, List.set_cons_zero, List.set_cons_succ, i64_w, i32_w]
    rfl
  refine pu_ 7 (some 22) (bm 10 255) HT_ (by as_aux_lemma => kernel_rfl) rfl rfl (fun _ _ _ h => h) (by rfl) (by intro w'; go_simp; with_reducible rfl) (by go_simp; rfl) ?_
  refine pu_ 8 (some 23) (bm 10 511) HT_ (by as_aux_lemma => kernel_rfl) rfl rfl (fun _ _ _ h => h) (by rfl) (by intro w'; go_simp; with_reducible rfl) (by go_simp; rfl) ?_
  refine one_ (i := 9) (N := none) (bm 10 1023) rfl rfl (one_of HT_.out (by as_aux_lemma => kernel_rfl)) (by as_aux_lemma => decide) (fun K hK => ?_)
  refine skip_ (w1 := ?_) (by rfl) rfl ?_ ?_
  rotate_left
  · go_simp
    rfl
  have hp_ := HP.out.put_data R5z.out HBY.out R5.out
  have n0_ := Aside0.mk hp_
  clear HP hp_
  have HP := n0_
  clear n0_
  refine hK.out _ _ ⟨(PS.Sk.cell HP.out F0.out hg1 hg2), (PS.Sk.cell HP.out F1.out hg1 hg2)⟩ (fun hHeld => ?_)
  clear hK K
  refine done_ (done_of HT_.out (by as_aux_lemma => kernel_rfl)) ?_
  go_wp2
  have eq_ : toldR m c0 = (c3, { m with data := c2.bytesV c0.byteV }) := by
    rw [Ec3.out, Ec2.out, Ec1.out]
    rfl
  rw [eq_]
  exact bodyPost_end (results_none rfl _ _ _) rfl (⟨rfl, PS.Sk.over HP.out (HKP.out.alloc _)⟩)
theorem told_0 {wb w0 w : World} {gr g gm : Nat} {c0 : Cu} {m : Msg} (h : PS.Sk wb w0 gr g gm w c0 m) (hg : ¬ 1 ≤ c0.byteV) :
    Calls Try.prog 22 #[.agg #[.pointer (some ⟨g, 0, none⟩), .pointer (some ⟨gm, 0, none⟩)]] w fun en w' => en = .returned (.tuple #[]) ∧ PS.Sk wb w0 gr g gm w' (toldR m c0).1 (toldR m c0).2 := by
  have HG := Aside0.mk hg
  clear hg
  have hlt := PS.Sk.lt h
  have HKP := Aside0.mk h.kp
  have HP := Aside0.mk (PS.Sk.start (PS.St.below h.st (below_alloc (Below.refl _ _) (.cells #[.pointer (some ⟨g, 0, none⟩), .pointer (some ⟨gm, 0, none⟩)] 50))))
  have F0 := Aside0.mk (show (w.alloc (.cells #[.pointer (some ⟨g, 0, none⟩), .pointer (some ⟨gm, 0, none⟩)] 50)).cell? ⟨w.heap.size, 0, none⟩ = some (.pointer (some ⟨g, 0, none⟩)) from (blk_cell (blk_new w (.cells #[.pointer (some ⟨g, 0, none⟩), .pointer (some ⟨gm, 0, none⟩)] 50)) 0).trans rfl)
  have F1 := Aside0.mk (show (w.alloc (.cells #[.pointer (some ⟨g, 0, none⟩), .pointer (some ⟨gm, 0, none⟩)] 50)).cell? ⟨w.heap.size, 1, none⟩ = some (.pointer (some ⟨gm, 0, none⟩)) from (blk_cell (blk_new w (.cells #[.pointer (some ⟨g, 0, none⟩), .pointer (some ⟨gm, 0, none⟩)] 50)) 1).trans rfl)
  have hg1 : w.heap.size ≠ g := by omega
  have hg2 : w.heap.size ≠ gm := by omega
  clear hlt h
  go_enter Try.func22, Try.ntmps22
  have qF0 := PS.Sk.cell HP.out F0.out hg1 hg2
  go_upto_region 2 with (first | (go_at_call 43; obtain ⟨l0, h0⟩ := Cu.byteV_bd (PS.Sk.good HP.out); (with_reducible refine (PS.Sk.byte HP.out).mono ?_); rintro en x1 ⟨rfl, hp_⟩; obtain ⟨c1, ec_⟩ : ∃ z, z = c0.byteS := ⟨_, rfl⟩; rw [← ec_] at hp_; have Ec1 := Aside0.mk ec_; clear ec_; have n0_ := Aside0.mk hp_; clear HP hp_; have HP := n0_; clear n0_))
  clear qF0
  have qF0 := PS.Sk.cell HP.out F0.out hg1 hg2
  have hge : decide (1 ≤ c0.byteV) = false := decide_eq_false (by have := HG.out; omega)
  have hge2 : decide (c0.byteV ≥ 1) = false := hge
  have EB := Aside0.mk (show (decide (1 ≤ c0.byteV) && decide (c0.byteV ≤ 250)) = (false) from by rw [hge]; rfl)
  go_upto_region 3 with (first | (go_at_call 44; (with_reducible refine (PS.Sk.need HP.out (false) 5).mono ?_); rintro en x2 ⟨rfl, hp_⟩; rw [← EB.out] at hp_; obtain ⟨c2, ec_⟩ : ∃ z, z = c1.need (decide (1 ≤ c0.byteV) && decide (c0.byteV ≤ 250)) 5 := ⟨_, rfl⟩; rw [← ec_] at hp_; have Ec2 := Aside0.mk ec_; clear ec_; have n0_ := Aside0.mk hp_; clear HP hp_; have HP := n0_; clear n0_))
  clear qF0
  clear hge hge2
  have HBY := Aside0.mk (Cu.bytes_bytesV (PS.Sk.good HP.out) (c0.byteV))
  have wk2 : IntKind.i64.wrap c0.byteV = c0.byteV := by rw [i64_w]; exact wrap64_id (by omega) (by omega)
  have n0_ := Aside0.mk (PS.Sk.below HP.out (below_drew (Below.refl _ _)))
  clear HP
  have HP := n0_
  clear n0_
  refine start_ (n := 10) (S := fun w' => w'.cell? ⟨w.heap.size, 0, none⟩ = some (.pointer (some ⟨g, 0, none⟩)) ∧ w'.cell? ⟨w.heap.size, 1, none⟩ = some (.pointer (some ⟨gm, 0, none⟩))) (ds := []) (bm 10 0) (by as_aux_lemma => kernel_rfl) rfl (by as_aux_lemma => kernel_rfl) ⟨(PS.Sk.cell HP.out F0.out hg1 hg2), (PS.Sk.cell HP.out F1.out hg1 hg2)⟩ (fun hHeld => ?_)
  refine with_tabW told.tab3 told.bits3 (fun HT_ HW_ => ?_)
  refine pu_ 0 (some 15) (bm 10 1) HT_ (by as_aux_lemma => kernel_rfl) rfl rfl (fun _ _ _ h => h) (by rfl) (by intro w'; go_simp; with_reducible rfl) (by go_simp; rfl) ?_
  refine pu_ 2 (some 17) (bm 10 5) HT_ (by as_aux_lemma => kernel_rfl) rfl rfl (fun _ _ _ h => h) (by rfl) (by intro w'; go_simp; with_reducible rfl) (by go_simp; rfl) ?_
  refine pu_ 4 (some 19) (bm 10 21) HT_ (by as_aux_lemma => kernel_rfl) rfl rfl (fun _ _ _ h => h) (by rfl) (by intro w'; go_simp; with_reducible rfl) (by go_simp; rfl) ?_
  refine pu_ 5 (some 20) (bm 10 53) HT_ (by as_aux_lemma => kernel_rfl) rfl rfl (fun _ _ _ h => h) (by rfl) (by intro w'; go_simp; with_reducible rfl) (by go_simp; rfl) ?_
  refine tk_ 1 (some 16) (bm 10 55) HT_ HW_ hHeld (by as_aux_lemma => kernel_rfl) rfl rfl (fun _ _ _ h => h) (by rfl) (by rintro w' ⟨s0, s1⟩; go_simp; with_reducible rfl) (by go_simp; rfl) ?_
  refine tk_ 3 (some 18) (bm 10 63) HT_ HW_ hHeld (by as_aux_lemma => kernel_rfl) rfl rfl (fun _ _ _ h => h) (by rfl) (by rintro w' ⟨s0, s1⟩; go_simp; with_reducible rfl) (by go_simp; rfl) ?_
  refine one_ (i := 6) (N := some 21) (bm 10 127) rfl rfl (one_of HT_.out (by as_aux_lemma => kernel_rfl)) (by as_aux_lemma => decide) (fun K hK => ?_)
  refine goes_ Try.func45 (by as_aux_lemma => kernel_rfl) rfl #[.pointer (some ⟨g, 0, none⟩), .int .i64 c0.byteV] (by rfl) rfl rfl (by simp only [List.map_toArray, List.map_cons, List.map_nil]; rfl) ?_
  with_reducible refine (PS.Sk.bytes HP.out (c0.byteV)).mono ?_
  rintro en x3 ⟨A5, n5, rfl, hz_, hr_, hp_⟩
  obtain ⟨c3, ec_⟩ : ∃ z, z = c2.bytesS (c0.byteV) := ⟨_, rfl⟩
  rw [← ec_] at hp_
  have Ec3 := Aside0.mk ec_
  clear ec_
  have R5 := Aside0.mk hr_
  have R5z := Aside0.mk hz_
  clear hr_ hz_
  have n0_ := Aside0.mk hp_
  clear HP hp_
  have HP := n0_
  clear n0_
  obtain ⟨Ad, nd, kd, fd⟩ := PS.Sk.at_data HP.out
  refine ⟨_, rfl, ?_⟩
  refine hK.out _ _ ⟨(PS.Sk.cell HP.out F0.out hg1 hg2), (PS.Sk.cell HP.out F1.out hg1 hg2)⟩ (fun hHeld => ?_)
  clear hK K
  refine norm_ (a' := ?_) ?_ ?_
  rotate_left
  · show Act.put _ (some 21) _ = _
    simp only [Act.put, List.setIfInBounds_toArray, List.set_cons_zero, List.set_cons_succ, i64_w, i32_w]
    rfl
  refine pu_ 7 (some 22) (bm 10 255) HT_ (by as_aux_lemma => kernel_rfl) rfl rfl (fun _ _ _ h => h) (by rfl) (by intro w'; go_simp; with_reducible rfl) (by go_simp; rfl) ?_
  refine pu_ 8 (some 23) (bm 10 511) HT_ (by as_aux_lemma => kernel_rfl) rfl rfl (fun _ _ _ h => h) (by rfl) (by intro w'; go_simp; with_reducible rfl) (by go_simp; rfl) ?_
  refine one_ (i := 9) (N := none) (bm 10 1023) rfl rfl (one_of HT_.out (by as_aux_lemma => kernel_rfl)) (by as_aux_lemma => decide) (fun K hK => ?_)
  refine skip_ (w1 := ?_) (by rfl) rfl ?_ ?_
  rotate_left
  · go_simp
    rfl
  have hp_ := HP.out.put_data R5z.out HBY.out R5.out
  have n0_ := Aside0.mk hp_
  clear HP hp_
  have HP := n0_
  clear n0_
  refine hK.out _ _ ⟨(PS.Sk.cell HP.out F0.out hg1 hg2), (PS.Sk.cell HP.out F1.out hg1 hg2)⟩ (fun hHeld => ?_)
  clear hK K
  refine done_ (done_of HT_.out (by as_aux_lemma => kernel_rfl)) ?_
  go_wp2
  have eq_ : toldR m c0 = (c3, { m with data := c2.bytesV c0.byteV }) := by
    rw [Ec3.out, Ec2.out, Ec1.out]
    rfl
  rw [eq_]
  exact bodyPost_end (results_none rfl _ _ _) rfl (⟨rfl, PS.Sk.over HP.out (HKP.out.alloc _)⟩)
theorem told_any {wb w0 w : World} {gr g gm : Nat} {c0 : Cu} {m : Msg} (h : PS.Sk wb w0 gr g gm w c0 m) :
    Calls Try.prog 22 #[.agg #[.pointer (some ⟨g, 0, none⟩), .pointer (some ⟨gm, 0, none⟩)]] w fun en w' => en = .returned (.tuple #[]) ∧ PS.Sk wb w0 gr g gm w' (toldR m c0).1 (toldR m c0).2 := by
  by_cases hg : 1 ≤ c0.byteV
  · exact told_1 h hg
  · exact told_0 h hg
def sets.T1 : Bool × List (List Nat × List Nat) := (true, [([], []), ([0], [0]), ([], []), ([2], [2]), ([3], [3]), ([1, 0, 1, 2, 3, 4], [1]), ([5, 0, 1, 2, 3, 4], [5]), ([6, 4, 4, 0, 1, 2, 3, 4], [4, 6])])
def sets.B1 : List Nat := [0, 1, 0, 4, 12, 31, 63, 127]
theorem sets.tab1 : rtab .any (opsOf Try.f23 1) = sets.T1 := by kernel_rfl
theorem sets.bits1 : waitsOk sets.T1.2 sets.B1 = true := by kernel_rfl
def sets.T2 : Bool × List (List Nat × List Nat) := (true, [([], []), ([0], [0]), ([], []), ([2], [2]), ([3], [3]), ([1, 0, 1, 2, 3, 4], [1]), ([5, 0, 1, 2, 3, 4], [5]), ([6, 4, 4, 0, 1, 2, 3, 4], [4, 6])])
def sets.B2 : List Nat := [0, 1, 0, 4, 12, 31, 63, 127]
theorem sets.tab2 : rtab .any (opsOf Try.f23 2) = sets.T2 := by kernel_rfl
theorem sets.bits2 : waitsOk sets.T2.2 sets.B2 = true := by kernel_rfl
def sets.T3 : Bool × List (List Nat × List Nat) := (true, [([], []), ([0], [0]), ([], []), ([2], [2]), ([3], [3]), ([4], [4]), ([5], [5]), ([6], [6]), ([7], [7]), ([8], [8]), ([9, 8], [8, 9]), ([10, 8], [8, 10]), ([11, 8], [8, 11]), ([12, 8], [8, 12]), ([13, 8], [8, 13]), ([8, 14], [8, 14]), ([1, 15, 8], [1, 15])])
def sets.B3 : List Nat := [0, 1, 0, 4, 12, 28, 60, 124, 252, 508, 1020, 2044, 4092, 8188, 16380, 32764, 65535]
theorem sets.tab3 : rtab .any (opsOf Try.f23 3) = sets.T3 := by kernel_rfl
theorem sets.bits3 : waitsOk sets.T3.2 sets.B3 = true := by kernel_rfl
theorem sets_1 {wb w0 w : World} {gr g gm : Nat} {c0 : Cu} {m : Msg} (h : PS.Sk wb w0 gr g gm w c0 m) (hg : c0.wordS.wordV = 0) :
    Calls Try.prog 23 #[.agg #[.pointer (some ⟨g, 0, none⟩), .pointer (some ⟨gm, 0, none⟩)]] w fun en w' => en = .returned (.tuple #[]) ∧ PS.Sk wb w0 gr g gm w' (setsR m c0).1 (setsR m c0).2 := by
  have hlt := PS.Sk.lt h
  have HKP := Aside0.mk h.kp
  have HP := Aside0.mk (PS.Sk.start (PS.St.below h.st (below_alloc (Below.refl _ _) (.cells #[.pointer (some ⟨g, 0, none⟩), .pointer (some ⟨gm, 0, none⟩)] 50))))
  have F0 := Aside0.mk (show (w.alloc (.cells #[.pointer (some ⟨g, 0, none⟩), .pointer (some ⟨gm, 0, none⟩)] 50)).cell? ⟨w.heap.size, 0, none⟩ = some (.pointer (some ⟨g, 0, none⟩)) from (blk_cell (blk_new w (.cells #[.pointer (some ⟨g, 0, none⟩), .pointer (some ⟨gm, 0, none⟩)] 50)) 0).trans rfl)
  have F1 := Aside0.mk (show (w.alloc (.cells #[.pointer (some ⟨g, 0, none⟩), .pointer (some ⟨gm, 0, none⟩)] 50)).cell? ⟨w.heap.size, 1, none⟩ = some (.pointer (some ⟨gm, 0, none⟩)) from (blk_cell (blk_new w (.cells #[.pointer (some ⟨g, 0, none⟩), .pointer (some ⟨gm, 0, none⟩)] 50)) 1).trans rfl)
  have hg1 : w.heap.size ≠ g := by omega
  have hg2 : w.heap.size ≠ gm := by omega
  clear hlt h
  go_enter Try.func23, Try.ntmps23
  go_upto_region 1 with (fail)
  have n0_ := Aside0.mk (PS.Sk.below HP.out (below_drew (Below.refl _ _)))
  clear HP
  have HP := n0_
  clear n0_
  obtain ⟨l0, h0⟩ := Cu.wordV_bd (PS.Sk.good HP.out)
  refine start_ (n := 8) (S := fun w' => w'.cell? ⟨w.heap.size, 0, none⟩ = some (.pointer (some ⟨g, 0, none⟩)) ∧ w'.cell? ⟨w.heap.size, 1, none⟩ = some (.pointer (some ⟨gm, 0, none⟩))) (ds := []) (bm 8 0) (by as_aux_lemma => kernel_rfl) rfl (by as_aux_lemma => kernel_rfl) ⟨(PS.Sk.cell HP.out F0.out hg1 hg2), (PS.Sk.cell HP.out F1.out hg1 hg2)⟩ (fun hHeld => ?_)
  refine with_tabW sets.tab1 sets.bits1 (fun HT_ HW_ => ?_)
  refine pu_ 0 (some 2) (bm 8 1) HT_ (by as_aux_lemma => kernel_rfl) rfl rfl (fun _ _ _ h => h) (by rfl) (by intro w'; go_simp; with_reducible rfl) (by go_simp; rfl) ?_
  refine pu_ 2 (some 4) (bm 8 5) HT_ (by as_aux_lemma => kernel_rfl) rfl rfl (fun _ _ _ h => h) (by rfl) (by intro w'; go_simp; with_reducible rfl) (by go_simp; rfl) ?_
  refine tk_ 1 (some 3) (bm 8 7) HT_ HW_ hHeld (by as_aux_lemma => kernel_rfl) rfl rfl (fun _ _ _ h => h) (by rfl) (by rintro w' ⟨s0, s1⟩; go_simp; with_reducible rfl) (by go_simp; rfl) ?_
  refine tk_ 3 (some 5) (bm 8 15) HT_ HW_ hHeld (by as_aux_lemma => kernel_rfl) rfl rfl (fun _ _ _ h => h) (by rfl) (by rintro w' ⟨s0, s1⟩; go_simp; with_reducible rfl) (by go_simp; rfl) ?_
  refine one_ (i := 4) (N := some 6) (bm 8 31) rfl rfl (one_of HT_.out (by as_aux_lemma => kernel_rfl)) (by as_aux_lemma => decide) (fun K hK => ?_)
  refine goes_ Try.func46 (by as_aux_lemma => kernel_rfl) rfl #[.pointer (some ⟨g, 0, none⟩)] (by rfl) rfl rfl (by simp only [List.map_toArray, List.map_cons, List.map_nil]; rfl) ?_
  with_reducible refine (PS.Sk.word HP.out).mono ?_
  rintro en x1 ⟨rfl, hp_⟩
  obtain ⟨c1, ec_⟩ : ∃ z, z = c0.wordS := ⟨_, rfl⟩
  rw [← ec_] at hp_
  have Ec1 := Aside0.mk ec_
  clear ec_
  obtain ⟨kaddr, faddr⟩ := PS.Sk.at_addr hp_
  have n0_ := Aside0.mk hp_
  clear HP hp_
  have HP := n0_
  clear n0_
  refine ⟨_, rfl, ?_⟩
  refine hK.out _ _ ⟨(PS.Sk.cell HP.out F0.out hg1 hg2), (PS.Sk.cell HP.out F1.out hg1 hg2)⟩ (fun hHeld => ?_)
  clear hK K
  refine norm_ (a' := ?_) ?_ ?_
  rotate_left
  · show Act.put _ (some 6) _ = _
    simp only [Act.put, List.setIfInBounds_toArray, List.set_cons_zero, List.set_cons_succ, i64_w, i32_w]
    rfl
  refine pu_ 5 (some 7) (bm 8 63) HT_ (by as_aux_lemma => kernel_rfl) rfl rfl (fun _ _ _ h => h) (by rfl) (by intro w'; go_simp; with_reducible rfl) (by go_simp; rfl) ?_
  refine pu_ 6 (some 8) (bm 8 127) HT_ (by as_aux_lemma => kernel_rfl) rfl rfl (fun _ _ _ h => h) (by rfl) (by intro w'; go_simp; with_reducible rfl) (by go_simp; rfl) ?_
  refine one_ (i := 7) (N := none) (bm 8 255) rfl rfl (one_of HT_.out (by as_aux_lemma => kernel_rfl)) (by as_aux_lemma => decide) (fun K hK => ?_)
  refine skip_ (w1 := ?_) (by rfl) rfl ?_ ?_
  rotate_left
  · go_simp
    rfl
  have hp_ := HP.out.put_addr ⟨l0, h0⟩
  have n0_ := Aside0.mk hp_
  clear HP hp_
  have HP := n0_
  clear n0_
  refine hK.out _ _ ⟨(PS.Sk.cell HP.out F0.out hg1 hg2), (PS.Sk.cell HP.out F1.out hg1 hg2)⟩ (fun hHeld => ?_)
  clear hK K
  refine done_ (done_of HT_.out (by as_aux_lemma => kernel_rfl)) ?_
  clear kaddr faddr
  go_upto_region 2 with (fail)
  have n0_ := Aside0.mk (PS.Sk.below HP.out (below_drew (Below.refl _ _)))
  clear HP
  have HP := n0_
  clear n0_
  obtain ⟨l1, h1⟩ := Cu.wordV_bd (PS.Sk.good HP.out)
  refine start_ (n := 8) (S := fun w' => w'.cell? ⟨w.heap.size, 0, none⟩ = some (.pointer (some ⟨g, 0, none⟩)) ∧ w'.cell? ⟨w.heap.size, 1, none⟩ = some (.pointer (some ⟨gm, 0, none⟩))) (ds := []) (bm 8 0) (by as_aux_lemma => kernel_rfl) rfl (by as_aux_lemma => kernel_rfl) ⟨(PS.Sk.cell HP.out F0.out hg1 hg2), (PS.Sk.cell HP.out F1.out hg1 hg2)⟩ (fun hHeld => ?_)
  refine with_tabW sets.tab2 sets.bits2 (fun HT_ HW_ => ?_)
  refine pu_ 0 (some 9) (bm 8 1) HT_ (by as_aux_lemma => kernel_rfl) rfl rfl (fun _ _ _ h => h) (by rfl) (by intro w'; go_simp; with_reducible rfl) (by go_simp; rfl) ?_
  refine pu_ 2 (some 11) (bm 8 5) HT_ (by as_aux_lemma => kernel_rfl) rfl rfl (fun _ _ _ h => h) (by rfl) (by intro w'; go_simp; with_reducible rfl) (by go_simp; rfl) ?_
  refine tk_ 1 (some 10) (bm 8 7) HT_ HW_ hHeld (by as_aux_lemma => kernel_rfl) rfl rfl (fun _ _ _ h => h) (by rfl) (by rintro w' ⟨s0, s1⟩; go_simp; with_reducible rfl) (by go_simp; rfl) ?_
  refine tk_ 3 (some 12) (bm 8 15) HT_ HW_ hHeld (by as_aux_lemma => kernel_rfl) rfl rfl (fun _ _ _ h => h) (by rfl) (by rintro w' ⟨s0, s1⟩; go_simp; with_reducible rfl) (by go_simp; rfl) ?_
  refine one_ (i := 4) (N := some 13) (bm 8 31) rfl rfl (one_of HT_.out (by as_aux_lemma => kernel_rfl)) (by as_aux_lemma => decide) (fun K hK => ?_)
  refine goes_ Try.func46 (by as_aux_lemma => kernel_rfl) rfl #[.pointer (some ⟨g, 0, none⟩)] (by rfl) rfl rfl (by simp only [List.map_toArray, List.map_cons, List.map_nil]; rfl) ?_
  with_reducible refine (PS.Sk.word HP.out).mono ?_
  rintro en x2 ⟨rfl, hp_⟩
  obtain ⟨c2, ec_⟩ : ∃ z, z = c1.wordS := ⟨_, rfl⟩
  rw [← ec_] at hp_
  have Ec2 := Aside0.mk ec_
  clear ec_
  obtain ⟨kvalue, fvalue⟩ := PS.Sk.at_value hp_
  have n0_ := Aside0.mk hp_
  clear HP hp_
  have HP := n0_
  clear n0_
  refine ⟨_, rfl, ?_⟩
  refine hK.out _ _ ⟨(PS.Sk.cell HP.out F0.out hg1 hg2), (PS.Sk.cell HP.out F1.out hg1 hg2)⟩ (fun hHeld => ?_)
  clear hK K
  refine norm_ (a' := ?_) ?_ ?_
  rotate_left
  · show Act.put _ (some 13) _ = _
    simp only [Act.put, List.setIfInBounds_toArray, List.set_cons_zero, List.set_cons_succ, i64_w, i32_w]
    rfl
  refine pu_ 5 (some 14) (bm 8 63) HT_ (by as_aux_lemma => kernel_rfl) rfl rfl (fun _ _ _ h => h) (by rfl) (by intro w'; go_simp; with_reducible rfl) (by go_simp; rfl) ?_
  refine pu_ 6 (some 15) (bm 8 127) HT_ (by as_aux_lemma => kernel_rfl) rfl rfl (fun _ _ _ h => h) (by rfl) (by intro w'; go_simp; with_reducible rfl) (by go_simp; rfl) ?_
  refine one_ (i := 7) (N := none) (bm 8 255) rfl rfl (one_of HT_.out (by as_aux_lemma => kernel_rfl)) (by as_aux_lemma => decide) (fun K hK => ?_)
  refine skip_ (w1 := ?_) (by rfl) rfl ?_ ?_
  rotate_left
  · go_simp
    rfl
  have hp_ := HP.out.put_value ⟨l1, h1⟩
  have n0_ := Aside0.mk hp_
  clear HP hp_
  have HP := n0_
  clear n0_
  refine hK.out _ _ ⟨(PS.Sk.cell HP.out F0.out hg1 hg2), (PS.Sk.cell HP.out F1.out hg1 hg2)⟩ (fun hHeld => ?_)
  clear hK K
  refine done_ (done_of HT_.out (by as_aux_lemma => kernel_rfl)) ?_
  clear kvalue fvalue
  go_upto_region 3 with (fail)
  have hz : (c1.wordV == 0) = true := by rw [Ec1.out]; exact beq_iff_eq.2 hg
  have EB := Aside0.mk (show (c1.wordV == 0 || c1.wordV == 65280) = (true) from by rw [hz]; rfl)
  have n0_ := Aside0.mk (PS.Sk.below HP.out (below_drew (Below.refl _ _)))
  clear HP
  have HP := n0_
  clear n0_
  refine start_ (n := 17) (S := fun w' => w'.cell? ⟨w.heap.size, 0, none⟩ = some (.pointer (some ⟨g, 0, none⟩)) ∧ w'.cell? ⟨w.heap.size, 1, none⟩ = some (.pointer (some ⟨gm, 0, none⟩)) ∧ w'.cell? ⟨gm, 4, none⟩ = some (.int .u16 c1.wordV)) (ds := []) (bm 17 0) (by as_aux_lemma => kernel_rfl) rfl (by as_aux_lemma => kernel_rfl) ⟨(PS.Sk.cell HP.out F0.out hg1 hg2), (PS.Sk.cell HP.out F1.out hg1 hg2), (PS.Sk.at_value HP.out).1⟩ (fun hHeld => ?_)
  refine with_tabW sets.tab3 sets.bits3 (fun HT_ HW_ => ?_)
  refine pu_ 0 (some 16) (bm 17 1) HT_ (by as_aux_lemma => kernel_rfl) rfl rfl (fun _ _ _ h => h) (by rfl) (by intro w'; go_simp; with_reducible rfl) (by go_simp; rfl) ?_
  refine pu_ 2 (some 18) (bm 17 5) HT_ (by as_aux_lemma => kernel_rfl) rfl rfl (fun _ _ _ h => h) (by rfl) (by intro w'; go_simp; with_reducible rfl) (by go_simp; rfl) ?_
  refine tk_ 1 (some 17) (bm 17 7) HT_ HW_ hHeld (by as_aux_lemma => kernel_rfl) rfl rfl (fun _ _ _ h => h) (by rfl) (by rintro w' ⟨s0, s1, s2⟩; go_simp; with_reducible rfl) (by go_simp; rfl) ?_
  refine tk_ 3 (some 19) (bm 17 15) HT_ HW_ hHeld (by as_aux_lemma => kernel_rfl) rfl rfl (fun _ _ _ h => h) (by rfl) (by rintro w' ⟨s0, s1, s2⟩; go_simp; with_reducible rfl) (by go_simp; rfl) ?_
  refine pu_ 4 (some 20) (bm 17 31) HT_ (by as_aux_lemma => kernel_rfl) rfl rfl (fun _ _ _ h => h) (by rfl) (by intro w'; go_simp; with_reducible rfl) (by go_simp; rfl) ?_
  refine pu_ 5 (some 21) (bm 17 63) HT_ (by as_aux_lemma => kernel_rfl) rfl rfl (fun _ _ _ h => h) (by rfl) (by intro w'; go_simp; with_reducible rfl) (by go_simp; rfl) ?_
  refine tk_ 6 (some 22) (bm 17 127) HT_ HW_ hHeld (by as_aux_lemma => kernel_rfl) rfl rfl (fun _ _ _ h => h) (by rfl) (by rintro w' ⟨s0, s1, s2⟩; go_simp; with_reducible rfl) (by go_simp; rfl) ?_
  refine pu_ 7 (some 23) (bm 17 255) HT_ (by as_aux_lemma => kernel_rfl) rfl rfl (fun _ _ _ h => h) (by rfl) (by intro w'; go_simp; with_reducible rfl) (by go_simp; rfl) ?_
  refine pu_ 8 (some 24) (bm 17 511) HT_ (by as_aux_lemma => kernel_rfl) rfl rfl (fun _ _ _ h => h) (by rfl) (by intro w'; go_simp; with_reducible rfl) (by go_simp; rfl) ?_
  refine po_ 9 (some 25) (bm 17 1023) HT_ (by as_aux_lemma => kernel_rfl) rfl rfl (fun _ _ _ h => h) (by rfl) (by go_simp; rfl) ?_
  refine po_ 10 (some 26) (bm 17 2047) HT_ (by as_aux_lemma => kernel_rfl) rfl rfl (fun _ _ _ h => h) (by rfl) (by go_simp; rfl) ?_
  refine po_ 11 (some 27) (bm 17 4095) HT_ (by as_aux_lemma => kernel_rfl) rfl rfl (fun _ _ _ h => h) (by rfl) (by go_simp; rfl) ?_
  refine po_ 12 (some 28) (bm 17 8191) HT_ (by as_aux_lemma => kernel_rfl) rfl rfl (fun _ _ _ h => h) (by rfl) (by go_simp; rfl) ?_
  refine po_ 13 (some 29) (bm 17 16383) HT_ (by as_aux_lemma => kernel_rfl) rfl rfl (fun _ _ _ h => h) (by rfl) (by go_simp; rfl) ?_
  refine po_ 14 (some 30) (bm 17 32767) HT_ (by as_aux_lemma => kernel_rfl) rfl rfl (fun _ _ _ h => h) (by rfl) (by go_simp; rfl) ?_
  refine pu_ 15 (some 31) (bm 17 65535) HT_ (by as_aux_lemma => kernel_rfl) rfl rfl (fun _ _ _ h => h) (by rfl) (by intro w'; go_simp; with_reducible rfl) (by go_simp; rfl) ?_
  refine one_ (i := 16) (N := some 32) (bm 17 131071) rfl rfl (one_of HT_.out (by as_aux_lemma => kernel_rfl)) (by as_aux_lemma => decide) (fun K hK => ?_)
  refine goes_ Try.func44 (by as_aux_lemma => kernel_rfl) rfl #[.pointer (some ⟨g, 0, none⟩), .bool (true), .int .i64 6] (by rfl) rfl rfl (by simp only [List.map_toArray, List.map_cons, List.map_nil]; rfl) ?_
  with_reducible refine (PS.Sk.need HP.out (true) 6).mono ?_
  rintro en x3 ⟨rfl, hp_⟩
  rw [← EB.out] at hp_
  obtain ⟨c3, ec_⟩ : ∃ z, z = c2.need (c1.wordV == 0 || c1.wordV == 65280) 6 := ⟨_, rfl⟩
  rw [← ec_] at hp_
  have Ec3 := Aside0.mk ec_
  clear ec_
  have n0_ := Aside0.mk hp_
  clear HP hp_
  have HP := n0_
  clear n0_
  refine ⟨_, rfl, ?_⟩
  refine hK.out _ _ ⟨(PS.Sk.cell HP.out F0.out hg1 hg2), (PS.Sk.cell HP.out F1.out hg1 hg2), (PS.Sk.at_value HP.out).1⟩ (fun hHeld => ?_)
  clear hK K
  refine norm_ (a' := ?_) ?_ ?_
  rotate_left
  · show Act.put _ (some 32) _ = _
    simp only [Act.put, List.setIfInBounds_toArray, List.set_cons_zero, List.set_cons_succ, i64_w, i32_w]
    rfl
  refine done_ (done_of HT_.out (by as_aux_lemma => kernel_rfl)) ?_
  clear hz
  go_wp2
  have eq_ : setsR m c0 = (c3, { ({ m with addr := c0.wordV } : Msg) with value := c1.wordV }) := by
    rw [Ec3.out, Ec2.out, Ec1.out]
    rfl
  rw [eq_]
  exact bodyPost_end (results_none rfl _ _ _) rfl (⟨rfl, PS.Sk.over HP.out (HKP.out.alloc _)⟩)
theorem sets_0 {wb w0 w : World} {gr g gm : Nat} {c0 : Cu} {m : Msg} (h : PS.Sk wb w0 gr g gm w c0 m) (hg : c0.wordS.wordV ≠ 0) :
    Calls Try.prog 23 #[.agg #[.pointer (some ⟨g, 0, none⟩), .pointer (some ⟨gm, 0, none⟩)]] w fun en w' => en = .returned (.tuple #[]) ∧ PS.Sk wb w0 gr g gm w' (setsR m c0).1 (setsR m c0).2 := by
  have hlt := PS.Sk.lt h
  have HKP := Aside0.mk h.kp
  have HP := Aside0.mk (PS.Sk.start (PS.St.below h.st (below_alloc (Below.refl _ _) (.cells #[.pointer (some ⟨g, 0, none⟩), .pointer (some ⟨gm, 0, none⟩)] 50))))
  have F0 := Aside0.mk (show (w.alloc (.cells #[.pointer (some ⟨g, 0, none⟩), .pointer (some ⟨gm, 0, none⟩)] 50)).cell? ⟨w.heap.size, 0, none⟩ = some (.pointer (some ⟨g, 0, none⟩)) from (blk_cell (blk_new w (.cells #[.pointer (some ⟨g, 0, none⟩), .pointer (some ⟨gm, 0, none⟩)] 50)) 0).trans rfl)
  have F1 := Aside0.mk (show (w.alloc (.cells #[.pointer (some ⟨g, 0, none⟩), .pointer (some ⟨gm, 0, none⟩)] 50)).cell? ⟨w.heap.size, 1, none⟩ = some (.pointer (some ⟨gm, 0, none⟩)) from (blk_cell (blk_new w (.cells #[.pointer (some ⟨g, 0, none⟩), .pointer (some ⟨gm, 0, none⟩)] 50)) 1).trans rfl)
  have hg1 : w.heap.size ≠ g := by omega
  have hg2 : w.heap.size ≠ gm := by omega
  clear hlt h
  go_enter Try.func23, Try.ntmps23
  go_upto_region 1 with (fail)
  have n0_ := Aside0.mk (PS.Sk.below HP.out (below_drew (Below.refl _ _)))
  clear HP
  have HP := n0_
  clear n0_
  obtain ⟨l0, h0⟩ := Cu.wordV_bd (PS.Sk.good HP.out)
  refine start_ (n := 8) (S := fun w' => w'.cell? ⟨w.heap.size, 0, none⟩ = some (.pointer (some ⟨g, 0, none⟩)) ∧ w'.cell? ⟨w.heap.size, 1, none⟩ = some (.pointer (some ⟨gm, 0, none⟩))) (ds := []) (bm 8 0) (by as_aux_lemma => kernel_rfl) rfl (by as_aux_lemma => kernel_rfl) ⟨(PS.Sk.cell HP.out F0.out hg1 hg2), (PS.Sk.cell HP.out F1.out hg1 hg2)⟩ (fun hHeld => ?_)
  refine with_tabW sets.tab1 sets.bits1 (fun HT_ HW_ => ?_)
  refine pu_ 0 (some 2) (bm 8 1) HT_ (by as_aux_lemma => kernel_rfl) rfl rfl (fun _ _ _ h => h) (by rfl) (by intro w'; go_simp; with_reducible rfl) (by go_simp; rfl) ?_
  refine pu_ 2 (some 4) (bm 8 5) HT_ (by as_aux_lemma => kernel_rfl) rfl rfl (fun _ _ _ h => h) (by rfl) (by intro w'; go_simp; with_reducible rfl) (by go_simp; rfl) ?_
  refine tk_ 1 (some 3) (bm 8 7) HT_ HW_ hHeld (by as_aux_lemma => kernel_rfl) rfl rfl (fun _ _ _ h => h) (by rfl) (by rintro w' ⟨s0, s1⟩; go_simp; with_reducible rfl) (by go_simp; rfl) ?_
  refine tk_ 3 (some 5) (bm 8 15) HT_ HW_ hHeld (by as_aux_lemma => kernel_rfl) rfl rfl (fun _ _ _ h => h) (by rfl) (by rintro w' ⟨s0, s1⟩; go_simp; with_reducible rfl) (by go_simp; rfl) ?_
  refine one_ (i := 4) (N := some 6) (bm 8 31) rfl rfl (one_of HT_.out (by as_aux_lemma => kernel_rfl)) (by as_aux_lemma => decide) (fun K hK => ?_)
  refine goes_ Try.func46 (by as_aux_lemma => kernel_rfl) rfl #[.pointer (some ⟨g, 0, none⟩)] (by rfl) rfl rfl (by simp only [List.map_toArray, List.map_cons, List.map_nil]; rfl) ?_
  with_reducible refine (PS.Sk.word HP.out).mono ?_
  rintro en x1 ⟨rfl, hp_⟩
  obtain ⟨c1, ec_⟩ : ∃ z, z = c0.wordS := ⟨_, rfl⟩
  rw [← ec_] at hp_
  have Ec1 := Aside0.mk ec_
  clear ec_
  obtain ⟨kaddr, faddr⟩ := PS.Sk.at_addr hp_
  have n0_ := Aside0.mk hp_
  clear HP hp_
  have HP := n0_
  clear n0_
  refine ⟨_, rfl, ?_⟩
  refine hK.out _ _ ⟨(PS.Sk.cell HP.out F0.out hg1 hg2), (PS.Sk.cell HP.out F1.out hg1 hg2)⟩ (fun hHeld => ?_)
  clear hK K
  refine norm_ (a' := ?_) ?_ ?_
  rotate_left
  · show Act.put _ (some 6) _ = _
    simp only [Act.put, List.setIfInBounds_toArray, List.set_cons_zero, List.set_cons_succ, i64_w, i32_w]
    rfl
  refine pu_ 5 (some 7) (bm 8 63) HT_ (by as_aux_lemma => kernel_rfl) rfl rfl (fun _ _ _ h => h) (by rfl) (by intro w'; go_simp; with_reducible rfl) (by go_simp; rfl) ?_
  refine pu_ 6 (some 8) (bm 8 127) HT_ (by as_aux_lemma => kernel_rfl) rfl rfl (fun _ _ _ h => h) (by rfl) (by intro w'; go_simp; with_reducible rfl) (by go_simp; rfl) ?_
  refine one_ (i := 7) (N := none) (bm 8 255) rfl rfl (one_of HT_.out (by as_aux_lemma => kernel_rfl)) (by as_aux_lemma => decide) (fun K hK => ?_)
  refine skip_ (w1 := ?_) (by rfl) rfl ?_ ?_
  rotate_left
  · go_simp
    rfl
  have hp_ := HP.out.put_addr ⟨l0, h0⟩
  have n0_ := Aside0.mk hp_
  clear HP hp_
  have HP := n0_
  clear n0_
  refine hK.out _ _ ⟨(PS.Sk.cell HP.out F0.out hg1 hg2), (PS.Sk.cell HP.out F1.out hg1 hg2)⟩ (fun hHeld => ?_)
  clear hK K
  refine done_ (done_of HT_.out (by as_aux_lemma => kernel_rfl)) ?_
  clear kaddr faddr
  go_upto_region 2 with (fail)
  have n0_ := Aside0.mk (PS.Sk.below HP.out (below_drew (Below.refl _ _)))
  clear HP
  have HP := n0_
  clear n0_
  obtain ⟨l1, h1⟩ := Cu.wordV_bd (PS.Sk.good HP.out)
  refine start_ (n := 8) (S := fun w' => w'.cell? ⟨w.heap.size, 0, none⟩ = some (.pointer (some ⟨g, 0, none⟩)) ∧ w'.cell? ⟨w.heap.size, 1, none⟩ = some (.pointer (some ⟨gm, 0, none⟩))) (ds := []) (bm 8 0) (by as_aux_lemma => kernel_rfl) rfl (by as_aux_lemma => kernel_rfl) ⟨(PS.Sk.cell HP.out F0.out hg1 hg2), (PS.Sk.cell HP.out F1.out hg1 hg2)⟩ (fun hHeld => ?_)
  refine with_tabW sets.tab2 sets.bits2 (fun HT_ HW_ => ?_)
  refine pu_ 0 (some 9) (bm 8 1) HT_ (by as_aux_lemma => kernel_rfl) rfl rfl (fun _ _ _ h => h) (by rfl) (by intro w'; go_simp; with_reducible rfl) (by go_simp; rfl) ?_
  refine pu_ 2 (some 11) (bm 8 5) HT_ (by as_aux_lemma => kernel_rfl) rfl rfl (fun _ _ _ h => h) (by rfl) (by intro w'; go_simp; with_reducible rfl) (by go_simp; rfl) ?_
  refine tk_ 1 (some 10) (bm 8 7) HT_ HW_ hHeld (by as_aux_lemma => kernel_rfl) rfl rfl (fun _ _ _ h => h) (by rfl) (by rintro w' ⟨s0, s1⟩; go_simp; with_reducible rfl) (by go_simp; rfl) ?_
  refine tk_ 3 (some 12) (bm 8 15) HT_ HW_ hHeld (by as_aux_lemma => kernel_rfl) rfl rfl (fun _ _ _ h => h) (by rfl) (by rintro w' ⟨s0, s1⟩; go_simp; with_reducible rfl) (by go_simp; rfl) ?_
  refine one_ (i := 4) (N := some 13) (bm 8 31) rfl rfl (one_of HT_.out (by as_aux_lemma => kernel_rfl)) (by as_aux_lemma => decide) (fun K hK => ?_)
  refine goes_ Try.func46 (by as_aux_lemma => kernel_rfl) rfl #[.pointer (some ⟨g, 0, none⟩)] (by rfl) rfl rfl (by simp only [List.map_toArray, List.map_cons, List.map_nil]; rfl) ?_
  with_reducible refine (PS.Sk.word HP.out).mono ?_
  rintro en x2 ⟨rfl, hp_⟩
  obtain ⟨c2, ec_⟩ : ∃ z, z = c1.wordS := ⟨_, rfl⟩
  rw [← ec_] at hp_
  have Ec2 := Aside0.mk ec_
  clear ec_
  obtain ⟨kvalue, fvalue⟩ := PS.Sk.at_value hp_
  have n0_ := Aside0.mk hp_
  clear HP hp_
  have HP := n0_
  clear n0_
  refine ⟨_, rfl, ?_⟩
  refine hK.out _ _ ⟨(PS.Sk.cell HP.out F0.out hg1 hg2), (PS.Sk.cell HP.out F1.out hg1 hg2)⟩ (fun hHeld => ?_)
  clear hK K
  refine norm_ (a' := ?_) ?_ ?_
  rotate_left
  · show Act.put _ (some 13) _ = _
    simp only [Act.put, List.setIfInBounds_toArray, List.set_cons_zero, List.set_cons_succ, i64_w, i32_w]
    rfl
  refine pu_ 5 (some 14) (bm 8 63) HT_ (by as_aux_lemma => kernel_rfl) rfl rfl (fun _ _ _ h => h) (by rfl) (by intro w'; go_simp; with_reducible rfl) (by go_simp; rfl) ?_
  refine pu_ 6 (some 15) (bm 8 127) HT_ (by as_aux_lemma => kernel_rfl) rfl rfl (fun _ _ _ h => h) (by rfl) (by intro w'; go_simp; with_reducible rfl) (by go_simp; rfl) ?_
  refine one_ (i := 7) (N := none) (bm 8 255) rfl rfl (one_of HT_.out (by as_aux_lemma => kernel_rfl)) (by as_aux_lemma => decide) (fun K hK => ?_)
  refine skip_ (w1 := ?_) (by rfl) rfl ?_ ?_
  rotate_left
  · go_simp
    rfl
  have hp_ := HP.out.put_value ⟨l1, h1⟩
  have n0_ := Aside0.mk hp_
  clear HP hp_
  have HP := n0_
  clear n0_
  refine hK.out _ _ ⟨(PS.Sk.cell HP.out F0.out hg1 hg2), (PS.Sk.cell HP.out F1.out hg1 hg2)⟩ (fun hHeld => ?_)
  clear hK K
  refine done_ (done_of HT_.out (by as_aux_lemma => kernel_rfl)) ?_
  clear kvalue fvalue
  go_upto_region 3 with (fail)
  have hz : (c1.wordV == 0) = false := by rw [Ec1.out]; exact beq_eq_false_iff_ne.2 hg
  have EB := Aside0.mk (show (c1.wordV == 0 || c1.wordV == 65280) = (c1.wordV == 65280) from by rw [hz]; rfl)
  have n0_ := Aside0.mk (PS.Sk.below HP.out (below_drew (Below.refl _ _)))
  clear HP
  have HP := n0_
  clear n0_
  refine start_ (n := 17) (S := fun w' => w'.cell? ⟨w.heap.size, 0, none⟩ = some (.pointer (some ⟨g, 0, none⟩)) ∧ w'.cell? ⟨w.heap.size, 1, none⟩ = some (.pointer (some ⟨gm, 0, none⟩)) ∧ w'.cell? ⟨gm, 4, none⟩ = some (.int .u16 c1.wordV)) (ds := []) (bm 17 0) (by as_aux_lemma => kernel_rfl) rfl (by as_aux_lemma => kernel_rfl) ⟨(PS.Sk.cell HP.out F0.out hg1 hg2), (PS.Sk.cell HP.out F1.out hg1 hg2), (PS.Sk.at_value HP.out).1⟩ (fun hHeld => ?_)
  refine with_tabW sets.tab3 sets.bits3 (fun HT_ HW_ => ?_)
  refine pu_ 0 (some 16) (bm 17 1) HT_ (by as_aux_lemma => kernel_rfl) rfl rfl (fun _ _ _ h => h) (by rfl) (by intro w'; go_simp; with_reducible rfl) (by go_simp; rfl) ?_
  refine pu_ 2 (some 18) (bm 17 5) HT_ (by as_aux_lemma => kernel_rfl) rfl rfl (fun _ _ _ h => h) (by rfl) (by intro w'; go_simp; with_reducible rfl) (by go_simp; rfl) ?_
  refine tk_ 1 (some 17) (bm 17 7) HT_ HW_ hHeld (by as_aux_lemma => kernel_rfl) rfl rfl (fun _ _ _ h => h) (by rfl) (by rintro w' ⟨s0, s1, s2⟩; go_simp; with_reducible rfl) (by go_simp; rfl) ?_
  refine tk_ 3 (some 19) (bm 17 15) HT_ HW_ hHeld (by as_aux_lemma => kernel_rfl) rfl rfl (fun _ _ _ h => h) (by rfl) (by rintro w' ⟨s0, s1, s2⟩; go_simp; with_reducible rfl) (by go_simp; rfl) ?_
  refine pu_ 4 (some 20) (bm 17 31) HT_ (by as_aux_lemma => kernel_rfl) rfl rfl (fun _ _ _ h => h) (by rfl) (by intro w'; go_simp; with_reducible rfl) (by go_simp; rfl) ?_
  refine pu_ 5 (some 21) (bm 17 63) HT_ (by as_aux_lemma => kernel_rfl) rfl rfl (fun _ _ _ h => h) (by rfl) (by intro w'; go_simp; with_reducible rfl) (by go_simp; rfl) ?_
  refine tk_ 6 (some 22) (bm 17 127) HT_ HW_ hHeld (by as_aux_lemma => kernel_rfl) rfl rfl (fun _ _ _ h => h) (by rfl) (by rintro w' ⟨s0, s1, s2⟩; go_simp; with_reducible rfl) (by go_simp; rfl) ?_
  refine pu_ 7 (some 23) (bm 17 255) HT_ (by as_aux_lemma => kernel_rfl) rfl rfl (fun _ _ _ h => h) (by rfl) (by intro w'; go_simp; with_reducible rfl) (by go_simp; rfl) ?_
  refine pu_ 8 (some 24) (bm 17 511) HT_ (by as_aux_lemma => kernel_rfl) rfl rfl (fun _ _ _ h => h) (by rfl) (by intro w'; go_simp; with_reducible rfl) (by go_simp; rfl) ?_
  refine pu_ 9 (some 25) (bm 17 1023) HT_ (by as_aux_lemma => kernel_rfl) rfl rfl (fun _ _ _ h => h) (by rfl) (by intro w'; go_simp; with_reducible rfl) (by go_simp; rfl) ?_
  refine tk_ 10 (some 26) (bm 17 2047) HT_ HW_ hHeld (by as_aux_lemma => kernel_rfl) rfl rfl (fun _ _ _ h => h) (by rfl) (by rintro w' ⟨s0, s1, s2⟩; go_simp; with_reducible rfl) (by go_simp; rfl) ?_
  refine pu_ 11 (some 27) (bm 17 4095) HT_ (by as_aux_lemma => kernel_rfl) rfl rfl (fun _ _ _ h => h) (by rfl) (by intro w'; go_simp; with_reducible rfl) (by go_simp; rfl) ?_
  refine pu_ 12 (some 28) (bm 17 8191) HT_ (by as_aux_lemma => kernel_rfl) rfl rfl (fun _ _ _ h => h) (by rfl) (by intro w'; go_simp; with_reducible rfl) (by go_simp; rfl) ?_
  refine tk_ 13 (some 29) (bm 17 16383) HT_ HW_ hHeld (by as_aux_lemma => kernel_rfl) rfl rfl (fun _ _ _ h => h) (by rfl) (by rintro w' ⟨s0, s1, s2⟩; go_simp; with_reducible rfl) (by go_simp; rfl) ?_
  refine pu_ 14 (some 30) (bm 17 32767) HT_ (by as_aux_lemma => kernel_rfl) rfl rfl (fun _ _ _ h => h) (by rfl) (by intro w'; go_simp; with_reducible rfl) (by go_simp; rfl) ?_
  refine pu_ 15 (some 31) (bm 17 65535) HT_ (by as_aux_lemma => kernel_rfl) rfl rfl (fun _ _ _ h => h) (by rfl) (by intro w'; go_simp; with_reducible rfl) (by go_simp; rfl) ?_
  refine one_ (i := 16) (N := some 32) (bm 17 131071) rfl rfl (one_of HT_.out (by as_aux_lemma => kernel_rfl)) (by as_aux_lemma => decide) (fun K hK => ?_)
  refine goes_ Try.func44 (by as_aux_lemma => kernel_rfl) rfl #[.pointer (some ⟨g, 0, none⟩), .bool (c1.wordV == 65280), .int .i64 6] (by rfl) rfl rfl (by simp only [List.map_toArray, List.map_cons, List.map_nil]; rfl) ?_
  with_reducible refine (PS.Sk.need HP.out (c1.wordV == 65280) 6).mono ?_
  rintro en x3 ⟨rfl, hp_⟩
  rw [← EB.out] at hp_
  obtain ⟨c3, ec_⟩ : ∃ z, z = c2.need (c1.wordV == 0 || c1.wordV == 65280) 6 := ⟨_, rfl⟩
  rw [← ec_] at hp_
  have Ec3 := Aside0.mk ec_
  clear ec_
  have n0_ := Aside0.mk hp_
  clear HP hp_
  have HP := n0_
  clear n0_
  refine ⟨_, rfl, ?_⟩
  refine hK.out _ _ ⟨(PS.Sk.cell HP.out F0.out hg1 hg2), (PS.Sk.cell HP.out F1.out hg1 hg2), (PS.Sk.at_value HP.out).1⟩ (fun hHeld => ?_)
  clear hK K
  refine norm_ (a' := ?_) ?_ ?_
  rotate_left
  · show Act.put _ (some 32) _ = _
    simp only [Act.put, List.setIfInBounds_toArray, List.set_cons_zero, List.set_cons_succ, i64_w, i32_w]
    rfl
  refine done_ (done_of HT_.out (by as_aux_lemma => kernel_rfl)) ?_
  clear hz
  go_wp2
  have eq_ : setsR m c0 = (c3, { ({ m with addr := c0.wordV } : Msg) with value := c1.wordV }) := by
    rw [Ec3.out, Ec2.out, Ec1.out]
    rfl
  rw [eq_]
  exact bodyPost_end (results_none rfl _ _ _) rfl (⟨rfl, PS.Sk.over HP.out (HKP.out.alloc _)⟩)
theorem sets_any {wb w0 w : World} {gr g gm : Nat} {c0 : Cu} {m : Msg} (h : PS.Sk wb w0 gr g gm w c0 m) :
    Calls Try.prog 23 #[.agg #[.pointer (some ⟨g, 0, none⟩), .pointer (some ⟨gm, 0, none⟩)]] w fun en w' => en = .returned (.tuple #[]) ∧ PS.Sk wb w0 gr g gm w' (setsR m c0).1 (setsR m c0).2 := by
  by_cases hg : c0.wordS.wordV = 0
  · exact sets_1 h hg
  · exact sets_0 h hg
def smany.T3 : Bool × List (List Nat × List Nat) := (true, [([], []), ([0], [0]), ([], []), ([], []), ([3], [3]), ([4], [4]), ([5], [5]), ([6], [6]), ([7], [7]), ([8], [8]), ([2, 9], [2, 9]), ([1, 10, 9], [1, 10])])
def smany.B3 : List Nat := [0, 1, 0, 0, 8, 24, 56, 120, 248, 504, 1020, 2047]
theorem smany.tab3 : rtab .any (opsOf Try.f24 3) = smany.T3 := by kernel_rfl
theorem smany.bits3 : waitsOk smany.T3.2 smany.B3 = true := by kernel_rfl
def smany.T4 : Bool × List (List Nat × List Nat) := (true, [([], []), ([0], [0]), ([], []), ([1, 2], [1, 2]), ([], []), ([4], [4]), ([5], [5]), ([6], [6]), ([7], [7]), ([8], [8]), ([3, 9, 3], [3, 9]), ([10], [10]), ([11], [11]), ([11], [11]), ([12, 10, 0, 1, 2, 3, 4, 5, 6, 7, 8, 9, 10, 11, 12], [12]), ([13, 14, 0, 1, 2, 3, 4, 5, 6, 7, 8, 9, 10, 11, 12, 13, 14], [13])])
def smany.B4 : List Nat := [0, 1, 0, 7, 0, 16, 48, 112, 240, 496, 1023, 2047, 4095, 4095, 8191, 32767]
theorem smany.tab4 : rtab .any (opsOf Try.f24 4) = smany.T4 := by kernel_rfl
theorem smany.bits4 : waitsOk smany.T4.2 smany.B4 = true := by kernel_rfl
theorem unpack_c {A : Option Addr} {c : Nat} {l : List Int} {n : Int} {w : World} (hr : Kd.C (Kd.int .u8) w A l.length l) (hc : l.length ≤ c) (hb : isBytes l) (hl : l.length ≤ 1000000) (hn : 0 ≤ n ∧ n < 65536) :
    Calls Try.prog 48 #[.slice A l.length c, .int .i64 n] w fun en w' => ∃ A' c', en = .returned (.tuple #[.slice A' (unpackR l n).1.length c', .bool (unpackR l n).2]) ∧ (unpackR l n).1.length ≤ c' ∧ (∀ W', Kept w' W' (fun k => k < w.heap.size) → Kd.C Kd.bool W' A' (unpackR l n).1.length (unpackR l n).1) ∧ Below w.heap.size w w' := by
  obtain ⟨k, hk⟩ := (unpack_ev l n hb hl (by omega) (by omega)).rounds
  refine (bits_Unpack.calls k A c l n _ _ w hr hc hk).mono ?_
  rintro en w' ⟨v, rfl, R, B⟩
  obtain ⟨A', c', rfl, hz, _⟩ := Kd.R_reads R
  refine ⟨A', c', rfl, hz, fun W' hk => ?_, B⟩
  obtain ⟨A2, c2, e2, _, h2⟩ := Kd.R_reads (Kd.R_move (Kd.R_bound R) (fun j hj => hk.2 j hj.2.2.1 (by have := hj.2.1; omega)))
  injection e2 with e3 e4 e5
  rw [e3]
  exact h2
theorem runpack_c {A : Option Addr} {c : Nat} {l : List Int} {n : Int} {w : World} (hr : Kd.C (Kd.int .u8) w A l.length l) (hc : l.length ≤ c) (hb : isBytes l) (hl : l.length ≤ 1000000) (hn : 0 ≤ n ∧ n < 65536) :
    Calls Try.prog 34 #[.slice A l.length c, .int .i64 n] w fun en w' => ∃ A' c', en = .returned (.tuple #[.slice A' (unpackR l n).1.length c', .bool (unpackR l n).2]) ∧ (unpackR l n).1.length ≤ c' ∧ (∀ W', Kept w' W' (fun k => k < w.heap.size) → Kd.C Kd.bool W' A' (unpackR l n).1.length (unpackR l n).1) ∧ Below w.heap.size w w' := by
  obtain ⟨k, hk⟩ := (R05.unpack_ev l n hb hl (by omega)).rounds
  refine (busbarref05_Unpack.calls k A c l n _ _ w hr hc hk).mono ?_
  rintro en w' ⟨v, rfl, R, B⟩
  obtain ⟨A', c', rfl, hz, _⟩ := Kd.R_reads R
  refine ⟨A', c', rfl, hz, fun W' hk => ?_, B⟩
  obtain ⟨A2, c2, e2, _, h2⟩ := Kd.R_reads (Kd.R_move (Kd.R_bound R) (fun j hj => hk.2 j hj.2.2.1 (by have := hj.2.1; omega)))
  injection e2 with e3 e4 e5
  rw [e3]
  exact h2
theorem many_c {n : Int} (hn : 0 ≤ n ∧ n < 65536) (w : World) : Calls Try.prog 47 #[.int .i64 n] w fun en w' => en = .returned (.int .i64 (bytesN n.toNat)) ∧ Below w.heap.size w w' := by
  refine (bits_Many.calls _ _ w (many_int n (by omega) (by omega))).mono ?_
  rintro e w' ⟨rfl, n, rfl⟩
  exact ⟨rfl, pw_below_drewN (Below.refl _ _) _⟩
theorem rmany_c {n : Int} (hn : 0 ≤ n ∧ n < 65536) (w : World) : Calls Try.prog 33 #[.int .i64 n] w fun en w' => en = .returned (.int .i64 (bytesN n.toNat)) ∧ Below w.heap.size w w' := by
  refine (busbarref05_Many.calls _ _ w (R05.many_int n (by omega) (by omega))).mono ?_
  rintro e w' ⟨rfl, n, rfl⟩
  exact ⟨rfl, pw_below_drewN (Below.refl _ _) _⟩
theorem setsMany_any {wb w0 w : World} {gr g gm : Nat} {c0 : Cu} {m : Msg} (h : PS.Sk wb w0 gr g gm w c0 m) :
    Calls Try.prog 24 #[.agg #[.pointer (some ⟨g, 0, none⟩), .pointer (some ⟨gm, 0, none⟩)]] w fun en w' => en = .returned (.tuple #[]) ∧ PS.Sk wb w0 gr g gm w' (manyR m c0).1 (manyR m c0).2 := by
  have hlt := PS.Sk.lt h
  have HKP := Aside0.mk h.kp
  have HP := Aside0.mk (PS.Sk.start (PS.St.below h.st (below_alloc (Below.refl _ _) (.cells #[.pointer (some ⟨g, 0, none⟩), .pointer (some ⟨gm, 0, none⟩)] 50))))
  have F0 := Aside0.mk (show (w.alloc (.cells #[.pointer (some ⟨g, 0, none⟩), .pointer (some ⟨gm, 0, none⟩)] 50)).cell? ⟨w.heap.size, 0, none⟩ = some (.pointer (some ⟨g, 0, none⟩)) from (blk_cell (blk_new w (.cells #[.pointer (some ⟨g, 0, none⟩), .pointer (some ⟨gm, 0, none⟩)] 50)) 0).trans rfl)
  have F1 := Aside0.mk (show (w.alloc (.cells #[.pointer (some ⟨g, 0, none⟩), .pointer (some ⟨gm, 0, none⟩)] 50)).cell? ⟨w.heap.size, 1, none⟩ = some (.pointer (some ⟨gm, 0, none⟩)) from (blk_cell (blk_new w (.cells #[.pointer (some ⟨g, 0, none⟩), .pointer (some ⟨gm, 0, none⟩)] 50)) 1).trans rfl)
  have hg1 : w.heap.size ≠ g := by omega
  have hg2 : w.heap.size ≠ gm := by omega
  clear hlt h
  go_enter Try.func24, Try.ntmps24
  have qF0 := PS.Sk.cell HP.out F0.out hg1 hg2
  have qF1 := PS.Sk.cell HP.out F1.out hg1 hg2
  go_upto_region 2 with (first | (go_at_call 25; (with_reducible refine (done_any HP.out).mono ?_); rintro en x80 ⟨rfl, hp_⟩; obtain ⟨z1, ez_⟩ : ∃ z, z = spanR 1968 m c0 := ⟨_, rfl⟩; rw [← ez_] at hp_; obtain ⟨c1, m1⟩ := z1; have EZ := Aside0.mk ez_; clear ez_; have n0_ := Aside0.mk hp_; clear HP hp_; have HP := n0_; clear n0_))
  clear qF0 qF1
  replace HP : Aside0 (PS.Sk _ w0 gr g gm x80 c1 m1) := HP
  obtain ⟨bc0, bc1⟩ := (goodM_num (PS.Sk.msg HP.out)).1.2.2.2.1
  have qF0 := PS.Sk.cell HP.out F0.out hg1 hg2
  go_upto_region 3 with (first | (go_at_call 43; obtain ⟨l1, h1⟩ := Cu.byteV_bd (PS.Sk.good HP.out); (with_reducible refine (PS.Sk.byte HP.out).mono ?_); rintro en x1 ⟨rfl, hp_⟩; obtain ⟨c2, ec_⟩ : ∃ z, z = c1.byteS := ⟨_, rfl⟩; rw [← ec_] at hp_; have Ec2 := Aside0.mk ec_; clear ec_; have n0_ := Aside0.mk hp_; clear HP hp_; have HP := n0_; clear n0_))
  clear qF0
  have wk2 : IntKind.i64.wrap c1.byteV = c1.byteV := by rw [i64_w]; exact wrap64_id (by omega) (by omega)
  have wk3 : IntKind.i64.wrap m1.count = m1.count := by rw [i64_w]; exact wrap64_id (by omega) (by omega)
  have wk4 := wrap64_id (x := c1.byteV) (by omega) (by omega)
  have wk5 := wrap64_id (x := m1.count) (by omega) (by omega)
  have n0_ := Aside0.mk (PS.Sk.below HP.out (below_drew (Below.refl _ _)))
  clear HP
  have HP := n0_
  clear n0_
  refine start_ (n := 12) (S := fun w' => w'.cell? ⟨w.heap.size, 0, none⟩ = some (.pointer (some ⟨g, 0, none⟩)) ∧ w'.cell? ⟨w.heap.size, 1, none⟩ = some (.pointer (some ⟨gm, 0, none⟩)) ∧ w'.cell? ⟨gm, 3, none⟩ = some (.int .u16 m1.count)) (ds := []) (bm 12 0) (by as_aux_lemma => kernel_rfl) rfl (by as_aux_lemma => kernel_rfl) ⟨(PS.Sk.cell HP.out F0.out hg1 hg2), (PS.Sk.cell HP.out F1.out hg1 hg2), (PS.Sk.at_count HP.out).1⟩ (fun hHeld => ?_)
  refine with_tabW smany.tab3 smany.bits3 (fun HT_ HW_ => ?_)
  refine pu_ 0 (some 11) (bm 12 1) HT_ (by as_aux_lemma => kernel_rfl) rfl rfl (fun _ _ _ h => h) (by rfl) (by intro w'; go_simp; with_reducible rfl) (by go_simp; rfl) ?_
  refine pu_ 2 (some 13) (bm 12 5) HT_ (by as_aux_lemma => kernel_rfl) rfl rfl (fun _ _ _ h => h) (by rfl) (by intro w'; go_simp; with_reducible rfl) (by go_simp; rfl) ?_
  refine pu_ 3 (some 14) (bm 12 13) HT_ (by as_aux_lemma => kernel_rfl) rfl rfl (fun _ _ _ h => h) (by rfl) (by intro w'; go_simp; with_reducible rfl) (by go_simp; rfl) ?_
  refine tk_ 1 (some 12) (bm 12 15) HT_ HW_ hHeld (by as_aux_lemma => kernel_rfl) rfl rfl (fun _ _ _ h => h) (by rfl) (by rintro w' ⟨s0, s1, s2⟩; go_simp; with_reducible rfl) (by go_simp; rfl) ?_
  refine tk_ 4 (some 15) (bm 12 31) HT_ HW_ hHeld (by as_aux_lemma => kernel_rfl) rfl rfl (fun _ _ _ h => h) (by rfl) (by rintro w' ⟨s0, s1, s2⟩; go_simp; with_reducible rfl) (by go_simp; rfl) ?_
  refine pu_ 5 (some 16) (bm 12 63) HT_ (by as_aux_lemma => kernel_rfl) rfl rfl (fun _ _ _ h => h) (by rfl) (by intro w'; go_simp; with_reducible rfl) (by go_simp; rfl) ?_
  refine pu_ 6 (some 17) (bm 12 127) HT_ (by as_aux_lemma => kernel_rfl) rfl rfl (fun _ _ _ h => h) (by rfl) (by intro w'; go_simp; with_reducible rfl) (by go_simp; rfl) ?_
  refine tk_ 7 (some 18) (bm 12 255) HT_ HW_ hHeld (by as_aux_lemma => kernel_rfl) rfl rfl (fun _ _ _ h => h) (by rfl) (by rintro w' ⟨s0, s1, s2⟩; go_simp; with_reducible rfl) (by go_simp; rfl) ?_
  refine pu_ 8 (some 19) (bm 12 511) HT_ (by as_aux_lemma => kernel_rfl) rfl rfl (fun _ _ _ h => h) (by rfl) (by intro w'; go_simp; with_reducible rfl) (by go_simp; rfl) ?_
  refine one_ (i := 9) (N := some 20) (bm 12 1023) rfl rfl (one_of HT_.out (by as_aux_lemma => kernel_rfl)) (by as_aux_lemma => decide) (fun K hK => ?_)
  refine goes_ Try.func47 (by as_aux_lemma => kernel_rfl) rfl #[.int .i64 m1.count] (by rfl) rfl rfl (by simp only [List.map_toArray, List.map_cons, List.map_nil]; rfl) ?_
  with_reducible refine (many_c ⟨bc0, bc1⟩ _).mono ?_
  rintro en x81 ⟨rfl, hb_⟩
  have n0_ := Aside0.mk (PS.Sk.below HP.out hb_)
  clear HP
  have HP := n0_
  clear n0_
  clear hb_
  refine ⟨_, rfl, ?_⟩
  refine hK.out _ _ ⟨(PS.Sk.cell HP.out F0.out hg1 hg2), (PS.Sk.cell HP.out F1.out hg1 hg2), (PS.Sk.at_count HP.out).1⟩ (fun hHeld => ?_)
  clear hK K
  refine norm_ (a' := ?_) ?_ ?_
  rotate_left
  · show Act.put _ (some 20) _ = _
    simp only [Act.put, List.setIfInBounds_toArray, List.set_cons_zero, List.set_cons_succ, i64_w, i32_w]
    rfl
  refine pu_ 10 (some 21) (bm 12 2047) HT_ (by as_aux_lemma => kernel_rfl) rfl rfl (fun _ _ _ h => h) (by rfl) (by intro w'; go_simp; with_reducible rfl) (by go_simp; rfl) ?_
  refine one_ (i := 11) (N := some 22) (bm 12 4095) rfl rfl (one_of HT_.out (by as_aux_lemma => kernel_rfl)) (by as_aux_lemma => decide) (fun K hK => ?_)
  refine goes_ Try.func44 (by as_aux_lemma => kernel_rfl) rfl #[.pointer (some ⟨g, 0, none⟩), .bool (c1.byteV == (bytesN m1.count.toNat : Int)), .int .i64 5] (by rfl) rfl rfl (by simp only [List.map_toArray, List.map_cons, List.map_nil]; rfl) ?_
  with_reducible refine (PS.Sk.need HP.out (c1.byteV == (bytesN m1.count.toNat : Int)) 5).mono ?_
  rintro en x2 ⟨rfl, hp_⟩
  obtain ⟨c3, ec_⟩ : ∃ z, z = c2.need (c1.byteV == (bytesN m1.count.toNat : Int)) 5 := ⟨_, rfl⟩
  rw [← ec_] at hp_
  have Ec3 := Aside0.mk ec_
  clear ec_
  have n0_ := Aside0.mk hp_
  clear HP hp_
  have HP := n0_
  clear n0_
  refine ⟨_, rfl, ?_⟩
  refine hK.out _ _ ⟨(PS.Sk.cell HP.out F0.out hg1 hg2), (PS.Sk.cell HP.out F1.out hg1 hg2), (PS.Sk.at_count HP.out).1⟩ (fun hHeld => ?_)
  clear hK K
  refine norm_ (a' := ?_) ?_ ?_
  rotate_left
  · show Act.put _ (some 22) _ = _
    simp only [Act.put, List.setIfInBounds_toArray, List.set_cons_zero, List.set_cons_succ, i64_w, i32_w]
    rfl
  refine done_ (done_of HT_.out (by as_aux_lemma => kernel_rfl)) ?_
  go_upto_region 4 with (fail)
  have HBY := Aside0.mk (Cu.bytes_bytesV (PS.Sk.good HP.out) (c1.byteV))
  have HLL := Aside0.mk (show (c3.bytesV c1.byteV).length ≤ 1000000 from by have := (PS.Sk.good HP.out).2.1; unfold Cu.bytesV; split; (rw [List.length_take]; omega); simp)
  have n0_ := Aside0.mk (PS.Sk.below HP.out (below_drew (Below.refl _ _)))
  clear HP
  have HP := n0_
  clear n0_
  refine start_ (n := 16) (S := fun w' => w'.cell? ⟨w.heap.size, 0, none⟩ = some (.pointer (some ⟨g, 0, none⟩)) ∧ w'.cell? ⟨w.heap.size, 1, none⟩ = some (.pointer (some ⟨gm, 0, none⟩)) ∧ w'.cell? ⟨gm, 3, none⟩ = some (.int .u16 m1.count)) (ds := []) (bm 16 0) (by as_aux_lemma => kernel_rfl) rfl (by as_aux_lemma => kernel_rfl) ⟨(PS.Sk.cell HP.out F0.out hg1 hg2), (PS.Sk.cell HP.out F1.out hg1 hg2), (PS.Sk.at_count HP.out).1⟩ (fun hHeld => ?_)
  refine with_tabW smany.tab4 smany.bits4 (fun HT_ HW_ => ?_)
  refine pu_ 0 (some 24) (bm 16 1) HT_ (by as_aux_lemma => kernel_rfl) rfl rfl (fun _ _ _ h => h) (by rfl) (by intro w'; go_simp; with_reducible rfl) (by go_simp; rfl) ?_
  refine pu_ 2 (some 26) (bm 16 5) HT_ (by as_aux_lemma => kernel_rfl) rfl rfl (fun _ _ _ h => h) (by rfl) (by intro w'; go_simp; with_reducible rfl) (by go_simp; rfl) ?_
  refine pu_ 4 (some 28) (bm 16 21) HT_ (by as_aux_lemma => kernel_rfl) rfl rfl (fun _ _ _ h => h) (by rfl) (by intro w'; go_simp; with_reducible rfl) (by go_simp; rfl) ?_
  refine tk_ 1 (some 25) (bm 16 23) HT_ HW_ hHeld (by as_aux_lemma => kernel_rfl) rfl rfl (fun _ _ _ h => h) (by rfl) (by rintro w' ⟨s0, s1, s2⟩; go_simp; with_reducible rfl) (by go_simp; rfl) ?_
  refine tk_ 5 (some 29) (bm 16 55) HT_ HW_ hHeld (by as_aux_lemma => kernel_rfl) rfl rfl (fun _ _ _ h => h) (by rfl) (by rintro w' ⟨s0, s1, s2⟩; go_simp; with_reducible rfl) (by go_simp; rfl) ?_
  refine pu_ 6 (some 30) (bm 16 119) HT_ (by as_aux_lemma => kernel_rfl) rfl rfl (fun _ _ _ h => h) (by rfl) (by intro w'; go_simp; with_reducible rfl) (by go_simp; rfl) ?_
  refine pu_ 7 (some 31) (bm 16 247) HT_ (by as_aux_lemma => kernel_rfl) rfl rfl (fun _ _ _ h => h) (by rfl) (by intro w'; go_simp; with_reducible rfl) (by go_simp; rfl) ?_
  refine tk_ 8 (some 32) (bm 16 503) HT_ HW_ hHeld (by as_aux_lemma => kernel_rfl) rfl rfl (fun _ _ _ h => h) (by rfl) (by rintro w' ⟨s0, s1, s2⟩; go_simp; with_reducible rfl) (by go_simp; rfl) ?_
  refine pu_ 9 (some 33) (bm 16 1015) HT_ (by as_aux_lemma => kernel_rfl) rfl rfl (fun _ _ _ h => h) (by rfl) (by intro w'; go_simp; with_reducible rfl) (by go_simp; rfl) ?_
  refine one_ (i := 3) (N := some 27) (bm 16 1023) rfl rfl (one_of HT_.out (by as_aux_lemma => kernel_rfl)) (by as_aux_lemma => decide) (fun K hK => ?_)
  refine goes_ Try.func45 (by as_aux_lemma => kernel_rfl) rfl #[.pointer (some ⟨g, 0, none⟩), .int .i64 c1.byteV] (by rfl) rfl rfl (by simp only [List.map_toArray, List.map_cons, List.map_nil]; rfl) ?_
  with_reducible refine (PS.Sk.bytes HP.out (c1.byteV)).mono ?_
  rintro en x3 ⟨A5, n5, rfl, hz_, hr_, hp_⟩
  obtain ⟨c4, ec_⟩ : ∃ z, z = c3.bytesS (c1.byteV) := ⟨_, rfl⟩
  rw [← ec_] at hp_
  have Ec4 := Aside0.mk ec_
  clear ec_
  have R5 := Aside0.mk hr_
  have R5z := Aside0.mk hz_
  clear hr_ hz_
  have n0_ := Aside0.mk hp_
  clear HP hp_
  have HP := n0_
  clear n0_
  refine ⟨_, rfl, ?_⟩
  refine hK.out _ _ ⟨(PS.Sk.cell HP.out F0.out hg1 hg2), (PS.Sk.cell HP.out F1.out hg1 hg2), (PS.Sk.at_count HP.out).1⟩ (fun hHeld => ?_)
  clear hK K
  refine norm_ (a' := ?_) ?_ ?_
  rotate_left
  · show Act.put _ (some 27) _ = _
    simp only [Act.put, List.setIfInBounds_toArray, List.set_cons_zero, List.set_cons_succ, i64_w, i32_w]
    rfl
  refine one_ (i := 10) (N := some 34) (bm 16 2047) rfl rfl (one_of HT_.out (by as_aux_lemma => kernel_rfl)) (by as_aux_lemma => decide) (fun K hK => ?_)
  refine goes_ Try.func48 (by as_aux_lemma => kernel_rfl) rfl #[.slice A5 (c3.bytesV c1.byteV).length n5, .int .i64 m1.count] (by rfl) rfl rfl (by simp only [List.map_toArray, List.map_cons, List.map_nil]; rfl) ?_
  with_reducible refine (unpack_c (R5.out _ (Kept.refl _ _)) R5z.out HBY.out HLL.out ⟨bc0, bc1⟩).mono ?_
  rintro en x82 ⟨A6, n6, rfl, hz_, hr_, hb_⟩
  have R6z := Aside0.mk hz_
  have HLT := Aside0.mk (PS.Sk.lt HP.out)
  have HGR := Aside0.mk (blk_lt HP.out.st.res)
  have n0_ := Aside0.mk (PS.Sk.below HP.out hb_)
  clear HP
  have HP := n0_
  clear n0_
  have R6 := Aside0.mk (show ∀ W', Kept x82 W' (fun k => k = g ∨ k = gm ∨ k = gr) → Kd.C Kd.bool W' A6 (unpackR (c3.bytesV c1.byteV) m1.count).1.length (unpackR (c3.bytesV c1.byteV) m1.count).1 from fun W' hk => hr_ W' (hk.mono fun k hk => by have := HLT.out; have := HGR.out; rcases hk with rfl | rfl | rfl <;> omega))
  clear hb_ hz_ hr_ HLT HGR
  refine ⟨_, rfl, ?_⟩
  refine hK.out _ _ ⟨(PS.Sk.cell HP.out F0.out hg1 hg2), (PS.Sk.cell HP.out F1.out hg1 hg2), (PS.Sk.at_count HP.out).1⟩ (fun hHeld => ?_)
  clear hK K
  refine norm_ (a' := ?_) ?_ ?_
  rotate_left
  · show Act.put _ (some 34) _ = _
    simp only [Act.put, List.setIfInBounds_toArray, List.set_cons_zero, List.set_cons_succ, i64_w, i32_w]
    rfl
  refine pu_ 11 (some 23) (bm 16 4095) HT_ (by as_aux_lemma => kernel_rfl) rfl rfl (fun _ _ _ h => h) (by rfl) (by intro w'; go_simp; with_reducible rfl) (by go_simp; rfl) ?_
  refine pu_ 12 (some 35) (bm 16 8191) HT_ (by as_aux_lemma => kernel_rfl) rfl rfl (fun _ _ _ h => h) (by rfl) (by intro w'; go_simp; with_reducible rfl) (by go_simp; rfl) ?_
  refine pu_ 13 (some 36) (bm 16 16383) HT_ (by as_aux_lemma => kernel_rfl) rfl rfl (fun _ _ _ h => h) (by rfl) (by intro w'; go_simp; with_reducible rfl) (by go_simp; rfl) ?_
  refine pu_ 14 (some 3) (bm 16 32767) HT_ (by as_aux_lemma => kernel_rfl) rfl rfl (fun _ _ _ h => h) (by rfl) (by intro w'; go_simp; with_reducible rfl) (by go_simp; rfl) ?_
  refine pu_ 15 (some 4) (bm 16 65535) HT_ (by as_aux_lemma => kernel_rfl) rfl rfl (fun _ _ _ h => h) (by rfl) (by intro w'; go_simp; with_reducible rfl) (by go_simp; rfl) ?_
  refine done_ (done_of HT_.out (by as_aux_lemma => kernel_rfl)) ?_
  have HK2 := Aside0.mk HP.out.kp
  have G0 := Aside0.mk (PS.Sk.cell HP.out F0.out hg1 hg2)
  have G1 := Aside0.mk (PS.Sk.cell HP.out F1.out hg1 hg2)
  have n0_ := Aside0.mk (PS.Sk.start HP.out.st)
  clear HP F0 F1 R5 R5z HBY HLL
  have HP := n0_
  have F0 := G0
  have F1 := G1
  clear n0_ G0 G1
  have qF0 := PS.Sk.cell HP.out F0.out hg1 hg2
  go_upto_region 6 with (first | (go_at_call 44; (with_reducible refine (PS.Sk.need HP.out ((unpackR (c3.bytesV c1.byteV) m1.count).2) 6).mono ?_); rintro en x4 ⟨rfl, hp_⟩; obtain ⟨c5, ec_⟩ : ∃ z, z = c4.need ((unpackR (c3.bytesV c1.byteV) m1.count).2) 6 := ⟨_, rfl⟩; rw [← ec_] at hp_; have Ec5 := Aside0.mk ec_; clear ec_; have n0_ := Aside0.mk hp_; clear HP hp_; have HP := n0_; clear n0_))
  clear qF0
  have qF1 := PS.Sk.cell HP.out F1.out hg1 hg2
  obtain ⟨Ad, nd, kd, fd⟩ := PS.Sk.at_bits HP.out
  go_wp2
  have hp_ := HP.out.put_bits R6z.out (fun W' hk => R6.out W' ((HP.out.kp.mono (fun k hk => by rcases hk with e | e; exact .inl e; exact .inr (.inl e))).then_ hk (fun k hk => .inl hk)))
  have n0_ := Aside0.mk hp_
  clear HP hp_
  have HP := n0_
  clear n0_
  have eq_ : manyR m c0 = (c5, { m1 with bits := (unpackR (c3.bytesV c1.byteV) m1.count).1 }) := by
    have e1 : manyR m c0 = manyK m1 c1 := by
      show manyK (spanR 1968 m c0).2 (spanR 1968 m c0).1 = _
      rw [← EZ.out]
    rw [e1, Ec5.out, Ec4.out, Ec3.out, Ec2.out]
    rfl
  rw [eq_]
  exact bodyPost_end (results_none rfl _ _ _) rfl (⟨rfl, PS.Sk.over (PS.Sk.over HP.out HK2.out) (HKP.out.alloc _)⟩)
end Go.Proofs.Ytggiobdjepgkfaa.Coil
end
