/- What the reference of bits computes is what the bits' functions compute. -/
import Derived.Test.YtpjapdkefjbimaaBits
import Derived.Test.YtpjapdkefjbimaaPx8
import Derived.Test.YtpjapdkefjbimaaPx6
import Derived.Test.YtpjapdkefjbimaaPx7
set_option linter.unusedVariables false
set_option linter.unusedSimpArgs false
namespace Go.Proofs.Ytpjapdkefjbimaa.R05
open Go.RowKit Go.Proofs.Ytpjapdkefjbimaa.P Go.Proofs.Ytpjapdkefjbimaa.E Go.Proofs.Ytpjapdkefjbimaa.Bits Go.Proofs.YtpjapdkefjbimaaW.PrintWords Go.Proofs.YtpjapdkefjbimaaW.PrintLast Go.Proofs.YtpjapdkefjbimaaW.PrintMore

theorem many_int (n : Int) (h0 : -9223372036854775808 ≤ n) (h1 : n < 9223372036854775808) : busbarref05_Many.f n = some (bytesN n.toNat : Int) := by
  unfold busbarref05_Many.f bytesN
  by_cases h : n < 1
  · rw [if_pos h]
    have : n.toNat = 0 := by omega
    rw [this]; rfl
  · rw [if_neg h]
    have c2 : 0 ≤ n := by omega
    have e1 : -9223372036854775808 ≤ n / 8 := by omega
    have e2 : n / 8 < 9223372036854775808 := by omega
    have e3 : -9223372036854775808 ≤ n / 8 + 1 := by omega
    have e4 : n / 8 + 1 < 9223372036854775808 := by omega
    have f1 : n % 8 > 0 → n / 8 + 1 = (((n.toNat + 7) / 8 : Nat) : Int) := fun h => by omega
    have f2 : ¬ n % 8 > 0 → n / 8 = (((n.toNat + 7) / 8 : Nat) : Int) := fun h => by omega
    rw [tdiv_id c2, tmod_id c2, wrap64_id e1 e2, wrap64_id e3 e4]
    by_cases hm : n % 8 > 0
    · rw [if_pos hm, f1 hm]
    · rw [if_neg hm, f2 hm]

/-- The first t bits of byte j. -/
def byteP (l : List Bool) (j : Nat) : Nat → Nat
  | 0 => 0
  | t + 1 => byteP l j t + 2 ^ t * (l.getD (8 * j + t) false).toNat
theorem byteP_all (l : List Bool) (j : Nat) : byteP l j 8 = byteN l j := by simp [byteP, byteN]
theorem byteP_lt (l : List Bool) (j t : Nat) : byteP l j t < 2 ^ t := by
  induction t with
  | zero => simp [byteP]
  | succ t ih =>
    have := toNat_le (l.getD (8 * j + t) false)
    simp only [byteP, Nat.pow_succ]
    have : 2 ^ t * (l.getD (8 * j + t) false).toNat ≤ 2 ^ t * 1 := Nat.mul_le_mul_left _ this
    omega
theorem byteP_over (l : List Bool) (j t d : Nat) (h : l.length ≤ 8 * j + t) : byteP l j (t + d) = byteP l j t := by
  induction d with
  | zero => rfl
  | succ d ih =>
    rw [← Nat.add_assoc]
    simp only [byteP]
    rw [ih, List.getD_eq_getElem?_getD, List.getElem?_eq_none (by omega)]; simp
/-- The bytes of the first j eights. -/
def first (l : List Bool) (j : Nat) : List Int := (List.range j).map fun i => (byteN l i : Int)
theorem first_succ (l : List Bool) (j : Nat) : first l (j + 1) = first l j ++ [(byteN l j : Int)] := by unfold first; rw [List.range_succ, List.map_append]; rfl

theorem inner (l : List Bool) (hl : (l.length : Int) < 9223372036854775000) (out : List Int) (ho : out.length < 140737488355328) (j : Nat) (r : List Int) (hj : 8 * j < l.length)
    (hr : ∃ K, ∀ k, K ≤ k → busbarref05_Pack.l0 k l (out ++ [(byteN l j : Int)]) ((8 * (j + 1) : Nat) : Int) = some r) (d : Nat) : ∀ t, t + d = 8 →
    Ev (fun k => busbarref05_Pack.l1 k l out ((8 * j : Nat) : Int) (byteP l j t : Int) ((2 ^ t : Nat) : Int) ((8 * j + t : Nat) : Int)) r := by
  have hend : ∀ t, byteP l j t = byteN l j → (hc : ∀ k, busbarref05_Pack.l1 (k + 1) l out ((8 * j : Nat) : Int) (byteP l j t : Int) ((2 ^ t : Nat) : Int) ((8 * j + t : Nat) : Int) = busbarref05_Pack.j2 k l out ((8 * j : Nat) : Int) (byteP l j t : Int) ((2 ^ t : Nat) : Int) ((8 * j + t : Nat) : Int) false) → Ev (fun k => busbarref05_Pack.l1 k l out ((8 * j : Nat) : Int) (byteP l j t : Int) ((2 ^ t : Nat) : Int) ((8 * j + t : Nat) : Int)) r := by
    intro t hb hc
    refine Ev.step hc ?_
    have hb2 := byteN_lt l j
    have c1 : (byteN l j : Int) % 256 = (byteN l j : Int) := by omega
    have d3 : ((8 * j : Nat) : Int) + 8 = ((8 * (j + 1) : Nat) : Int) := by omega
    have e3 : ((8 * (j + 1) : Nat) : Int) < 9223372036854775808 := by omega
    have e4 : -9223372036854775808 ≤ ((8 * (j + 1) : Nat) : Int) := by omega
    refine Ev.step (f := fun k => busbarref05_Pack.l0 k l (out ++ [(byteN l j : Int)]) ((8 * (j + 1) : Nat) : Int)) (fun k => ?_) hr
    simp only [busbarref05_Pack.j2]
    rw [if_neg (show ¬ (false = true) by simp), if_pos ho, hb, c1, d3, wrap64_id e4 e3]
  induction d with
  | zero =>
    intro t ht
    obtain rfl : t = 8 := by omega
    refine hend 8 (byteP_all l j) (fun k => ?_)
    have d3 : ((8 * j : Nat) : Int) + 8 = ((8 * j + 8 : Nat) : Int) := by omega
    have e3 : ((8 * j + 8 : Nat) : Int) < 9223372036854775808 := by omega
    have e4 : -9223372036854775808 ≤ ((8 * j + 8 : Nat) : Int) := by omega
    simp only [busbarref05_Pack.l1]
    by_cases c : ((8 * j + 8 : Nat) : Int) < (l.length : Int)
    · rw [if_pos c, d3, wrap64_id e4 e3, decide_eq_false (Int.lt_irrefl _)]
    · rw [if_neg c]
  | succ d ih =>
    intro t ht
    have d3 : ((8 * j : Nat) : Int) + 8 = ((8 * j + 8 : Nat) : Int) := by omega
    have e3 : ((8 * j + 8 : Nat) : Int) < 9223372036854775808 := by omega
    have e4 : -9223372036854775808 ≤ ((8 * j + 8 : Nat) : Int) := by omega
    have c9 : ((8 * j + t : Nat) : Int) < ((8 * j + 8 : Nat) : Int) := by omega
    have c2 : (0 : Int) ≤ ((8 * j + t : Nat) : Int) := by omega
    by_cases c : ((8 * j + t : Nat) : Int) < (l.length : Int)
    · have hp := byteP_lt l j t
      have hp1 := byteP_lt l j (t + 1)
      have h2 : 2 ^ (t + 1) ≤ 2 ^ 8 := Nat.pow_le_pow_right (by omega) (by omega)
      have h3 : 2 ^ (t + 1) = 2 * 2 ^ t := by rw [Nat.pow_succ]; omega
      have g1 : (2 : Int) * ((2 ^ t : Nat) : Int) = ((2 ^ (t + 1) : Nat) : Int) := by rw [h3]; omega
      have g2 : -9223372036854775808 ≤ ((2 ^ (t + 1) : Nat) : Int) := by omega
      have g3 : ((2 ^ (t + 1) : Nat) : Int) < 9223372036854775808 := by omega
      have g4 : ((8 * j + t : Nat) : Int) + 1 = ((8 * j + (t + 1) : Nat) : Int) := by omega
      have g5 : -9223372036854775808 ≤ ((8 * j + (t + 1) : Nat) : Int) := by omega
      have g6 : ((8 * j + (t + 1) : Nat) : Int) < 9223372036854775808 := by omega
      have g7 : -9223372036854775808 ≤ (byteP l j (t + 1) : Int) := by omega
      have g8 : (byteP l j (t + 1) : Int) < 9223372036854775808 := by omega
      have hrd : rdOf false l ((8 * j + t : Nat) : Int) = l.getD (8 * j + t) false := by simp only [rdOf, Int.toNat_natCast]
      refine Ev.step (f := fun k => busbarref05_Pack.j2 k l out ((8 * j : Nat) : Int) (byteP l j t : Int) ((2 ^ t : Nat) : Int) ((8 * j + t : Nat) : Int) true) (fun k => ?_) ?_
      · simp only [busbarref05_Pack.l1]
        rw [if_pos c, d3, wrap64_id e4 e3, decide_eq_true c9]
      · refine Ev.step (f := fun k => busbarref05_Pack.l1 k l out ((8 * j : Nat) : Int) (byteP l j (t + 1) : Int) ((2 ^ (t + 1) : Nat) : Int) ((8 * j + (t + 1) : Nat) : Int)) (fun k => ?_) (ih (t + 1) (by omega))
        simp only [busbarref05_Pack.j2]
        rw [if_pos trivial, if_pos c2, if_pos c, hrd, g1, wrap64_id g2 g3, g4, wrap64_id g5 g6]
        cases hb : l.getD (8 * j + t) false with
        | true =>
          have hb1 : (byteP l j t : Int) + ((2 ^ t : Nat) : Int) = (byteP l j (t + 1) : Int) := by simp only [byteP, hb, Bool.toNat_true, Nat.mul_one]; omega
          rw [if_pos rfl, hb1, wrap64_id g7 g8]
        | false =>
          have hb1 : byteP l j (t + 1) = byteP l j t := by simp only [byteP, hb, Bool.toNat_false, Nat.mul_zero, Nat.add_zero]
          rw [if_neg (by simp), hb1]
    · refine hend t ?_ (fun k => ?_)
      · rw [← byteP_all, ← byteP_over l j t (d + 1) (by omega), ht]
      · simp only [busbarref05_Pack.l1]
        rw [if_neg c]
theorem outer (l : List Bool) (hl : l.length ≤ 140737488351232) (d : Nat) : ∀ j, j + d = bytesN l.length → Ev (fun k => busbarref05_Pack.l0 k l (first l j) ((8 * j : Nat) : Int)) (packS l) := by
  induction d with
  | zero =>
    intro j hj
    refine Ev.step (f := fun _ => some (packS l)) (fun k => ?_) (Ev.now _)
    have c : ¬ ((8 * j : Nat) : Int) < (l.length : Int) := by unfold bytesN at hj; omega
    simp only [busbarref05_Pack.l0]
    rw [if_neg c, show first l j = packS l by unfold first packS; rw [← hj]; rfl]
  | succ d ih =>
    intro j hj
    have hj8 : 8 * j < l.length := by unfold bytesN at hj; omega
    have c : ((8 * j : Nat) : Int) < (l.length : Int) := by omega
    refine Ev.step (f := fun k => busbarref05_Pack.l1 k l (first l j) ((8 * j : Nat) : Int) (byteP l j 0 : Int) ((2 ^ 0 : Nat) : Int) ((8 * j + 0 : Nat) : Int)) (fun k => ?_) ?_
    · simp only [busbarref05_Pack.l0]
      rw [if_pos c]; rfl
    · refine inner l (by omega) (first l j) (by simp only [first, List.length_map, List.length_range]; unfold bytesN at hj; omega) j _ hj8 ?_ 8 0 (by omega)
      rw [← first_succ]
      exact ih (j + 1) (by omega)
theorem pack_ev (l : List Bool) (hl : l.length ≤ 140737488351232) : Ev (fun k => busbarref05_Pack.f k l) (packS l) := by
  have h := outer l hl (bytesN l.length) 0 (by omega)
  exact h

theorem half (b : List Int) (n : Int) (out : List Bool) (ho : out.length < 140737488355328) (i : Nat) (hi : (i : Int) < 9223372036854775000) (x : Nat) (hx : x < 256) (r : List Bool × Bool)
    (hr : Ev (fun k => busbarref05_Unpack.l0 k b n (out ++ [(x / 2 ^ (i % 8)) % 2 == 1]) ((i + 1 : Nat) : Int)) r) (d : Nat) : ∀ t, t + d = i % 8 →
    Ev (fun k => busbarref05_Unpack.l1 k b n out (i : Int) ((x / 2 ^ t : Nat) : Int) (t : Int)) r := by
  have d1 : (i : Int) % 8 = ((i % 8 : Nat) : Int) := by omega
  have c2 : (0 : Int) ≤ (i : Int) := by omega
  induction d with
  | zero =>
    intro t ht
    obtain rfl : t = i % 8 := by omega
    refine Ev.step (f := fun k => busbarref05_Unpack.l0 k b n (out ++ [(x / 2 ^ (i % 8)) % 2 == 1]) ((i + 1 : Nat) : Int)) (fun k => ?_) hr
    have c : ¬ ((i % 8 : Nat) : Int) < ((i % 8 : Nat) : Int) := by omega
    have d3 : (i : Int) + 1 = ((i + 1 : Nat) : Int) := by omega
    have e3 : ((i + 1 : Nat) : Int) < 9223372036854775808 := by omega
    have e4 : -9223372036854775808 ≤ ((i + 1 : Nat) : Int) := by omega
    have c3 : (0 : Int) ≤ ((x / 2 ^ (i % 8) : Nat) : Int) := Int.natCast_nonneg _
    simp only [busbarref05_Unpack.l1]
    rw [tmod_id c2, d1, if_neg c, if_pos ho, d3, wrap64_id e4 e3, tmod_id c3]
    have : (((x / 2 ^ (i % 8) : Nat) : Int) % 2 == 1) = ((x / 2 ^ (i % 8)) % 2 == 1) := by
      generalize x / 2 ^ (i % 8) = y
      rw [Bool.eq_iff_iff, beq_iff_eq, beq_iff_eq]; omega
    rw [this]
  | succ d ih =>
    intro t ht
    refine Ev.step (f := fun k => busbarref05_Unpack.l1 k b n out (i : Int) ((x / 2 ^ (t + 1) : Nat) : Int) ((t + 1 : Nat) : Int)) (fun k => ?_) (ih (t + 1) (by omega))
    have c : (t : Int) < ((i % 8 : Nat) : Int) := by omega
    have hle : x / 2 ^ t ≤ x := Nat.div_le_self _ _
    have hle2 : x / 2 ^ (t + 1) ≤ x := Nat.div_le_self _ _
    have c3 : (0 : Int) ≤ ((x / 2 ^ t : Nat) : Int) := Int.natCast_nonneg _
    have d4 : ((x / 2 ^ t : Nat) : Int) / 2 = ((x / 2 ^ (t + 1) : Nat) : Int) := by rw [Nat.pow_succ, ← Nat.div_div_eq_div_mul]; omega
    have e1 : -9223372036854775808 ≤ ((x / 2 ^ (t + 1) : Nat) : Int) := by omega
    have e2 : ((x / 2 ^ (t + 1) : Nat) : Int) < 9223372036854775808 := by omega
    have d3 : (t : Int) + 1 = ((t + 1 : Nat) : Int) := by omega
    have e3 : ((t + 1 : Nat) : Int) < 9223372036854775808 := by omega
    have e4 : -9223372036854775808 ≤ ((t + 1 : Nat) : Int) := by omega
    simp only [busbarref05_Unpack.l1]
    rw [tmod_id c2, d1, if_pos c, tdiv_id c3, d4, wrap64_id e1 e2, d3, wrap64_id e4 e3]
theorem unpackS_succ (b : List Int) (i : Nat) : unpackS b (i + 1) = unpackS b i ++ [bitAt b i] := by unfold unpackS; rw [List.range_succ, List.map_append]; rfl
theorem unpackS_length (b : List Int) (n : Nat) : (unpackS b n).length = n := by simp [unpackS]
def refR (b : List Int) (n : Nat) : List Bool × Bool := if packS (unpackS b n) = b then (unpackS b n, true) else ([], false)
theorem refR_eq (b : List Int) (n : Nat) (hb : isBytes b) : refR b n = unpackR b n := by
  unfold refR unpackR
  rw [Int.toNat_natCast]
  by_cases h1 : b.length = bytesN n
  · cases h2 : tail0 b n with
    | true => rw [if_pos (packS_unpackS b n hb h1 h2), if_neg]; rintro (h | h | h) <;> first | omega | exact h h1 | cases h
    | false =>
      rw [if_neg, if_pos (.inr (.inr rfl))]
      intro h
      have := tail0_packS (unpackS b n)
      rw [h, unpackS_length, h2] at this
      cases this
  · rw [if_neg, if_pos (.inr (.inl h1))]
    intro h
    have := packS_length (unpackS b n)
    rw [h, unpackS_length] at this
    exact h1 this
theorem un_loop (b : List Int) (n : Nat) (hb : isBytes b) (hl : b.length ≤ 1000000) (hn : n ≤ 8 * b.length) (d : Nat) : ∀ i, i + d = n → Ev (fun k => busbarref05_Unpack.l0 k b n (unpackS b i) (i : Int)) (refR b n) := by
  induction d with
  | zero =>
    intro i hi
    obtain rfl : i = n := by omega
    have c : ¬ (i : Int) < (i : Int) := by omega
    refine Ev.step (f := fun k => (busbarref05_Pack.f k (unpackS b i)).bind fun t => if (strOfNums t).toList = (strOfNums b).toList then some (unpackS b i, true) else some ([], false)) (fun k => ?_) ?_
    · simp only [busbarref05_Unpack.l0]
      rw [if_neg c]
    · refine Ev.bind (f := fun _ t => if (strOfNums t).toList = (strOfNums b).toList then some (unpackS b i, true) else some ([], false)) (pack_ev (unpackS b i) (by rw [unpackS_length]; omega)) ?_
      unfold refR
      by_cases h : packS (unpackS b i) = b
      · rw [if_pos h]
        exact pos (by rw [h]) (Ev.now _)
      · rw [if_neg h]
        exact neg (by rw [str_eq (packS_bytes _) hb]; exact h) (Ev.now _)
  | succ d ih =>
    intro i hi
    have c1 : (i : Int) < (n : Int) := by omega
    have c2 : (0 : Int) ≤ (i : Int) := by omega
    have d1 : (i : Int) / 8 = ((i / 8 : Nat) : Int) := by omega
    have c4 : (0 : Int) ≤ ((i / 8 : Nat) : Int) := by omega
    have c5 : ((i / 8 : Nat) : Int) < (b.length : Int) := by omega
    have e1 : ((i / 8 : Nat) : Int) < 9223372036854775808 := by omega
    have e2 : -9223372036854775808 ≤ ((i / 8 : Nat) : Int) := by omega
    obtain ⟨h0, h1⟩ := isBytes_rd hb (i / 8)
    obtain ⟨x, hx⟩ := Int.eq_ofNat_of_zero_le h0
    have hx2 : x < 256 := by omega
    have e5 : -9223372036854775808 ≤ (x : Int) := by omega
    have e6 : (x : Int) < 9223372036854775808 := by omega
    have hrd : rd b ((i / 8 : Nat) : Int) = (x : Int) := by unfold rd; rw [Int.toNat_natCast]; exact hx
    refine Ev.step (f := fun k => busbarref05_Unpack.l1 k b n (unpackS b i) (i : Int) ((x / 2 ^ 0 : Nat) : Int) ((0 : Nat) : Int)) (fun k => ?_) ?_
    · simp only [busbarref05_Unpack.l0]
      rw [if_pos c1, tdiv_id c2, d1, wrap64_id e2 e1, if_pos c4, if_pos c5, hrd, wrap64_id e5 e6, Nat.pow_zero, Nat.div_one]; rfl
    · have hbit : bitAt b i = (x / 2 ^ (i % 8) % 2 == 1) := by unfold bitAt; rw [hx]; rfl
      refine half b n (unpackS b i) (by rw [unpackS_length]; omega) i (by omega) x hx2 _ ?_ (i % 8) 0 (by omega)
      rw [← hbit, ← unpackS_succ]
      exact ih (i + 1) (by omega)
theorem unpack_ev (b : List Int) (n : Int) (hb : isBytes b) (hl : b.length ≤ 1000000) (h1 : n < 9223372036854775808) : Ev (fun k => busbarref05_Unpack.f k b n) (unpackR b n) := by
  have d8 : 8 * (b.length : Int) = ((8 * b.length : Nat) : Int) := by omega
  have e1 : -9223372036854775808 ≤ ((8 * b.length : Nat) : Int) := by omega
  have e2 : ((8 * b.length : Nat) : Int) < 9223372036854775808 := by omega
  by_cases hneg : n < 0
  · refine Ev.congr (f := fun k => busbarref05_Unpack.j0 k b n true) (fun k => by unfold busbarref05_Unpack.f; rw [if_pos hneg]) ?_
    refine Ev.step (f := fun _ => some ([], false)) (fun k => by simp only [busbarref05_Unpack.j0]; rfl) (ret ?_)
    unfold unpackR; rw [if_pos (.inl hneg)]
  · refine Ev.congr (f := fun k => busbarref05_Unpack.j0 k b n (decide (n > ((8 * b.length : Nat) : Int)))) (fun k => by unfold busbarref05_Unpack.f; rw [if_neg hneg, d8, wrap64_id e1 e2]) ?_
    by_cases hbig : n > ((8 * b.length : Nat) : Int)
    · rw [decide_eq_true hbig]
      refine Ev.step (f := fun _ => some ([], false)) (fun k => by simp only [busbarref05_Unpack.j0]; rfl) (ret ?_)
      have hne : b.length ≠ bytesN n.toNat := by unfold bytesN; omega
      unfold unpackR; rw [if_pos (.inr (.inl hne))]
    · rw [decide_eq_false hbig]
      obtain ⟨m, rfl⟩ := Int.eq_ofNat_of_zero_le (show 0 ≤ n by omega)
      refine Ev.step (f := fun k => busbarref05_Unpack.l0 k b m (unpackS b 0) ((0 : Nat) : Int)) (fun k => ?_) ?_
      · simp only [busbarref05_Unpack.j0]; rfl
      · have := un_loop b m hb hl (by omega) m 0 (by omega)
        rw [refR_eq b m hb] at this
        exact this
end Go.Proofs.Ytpjapdkefjbimaa.R05
