/- What the bits' functions compute, in plain lists: packS, unpackS. -/
import Derived.Test.YtpjapdkefjbimaaEv
import Derived.Test.YtpjapdkefjbimaaPx1
import Derived.Test.YtpjapdkefjbimaaPx3
import Derived.Test.YtpjapdkefjbimaaPx2
set_option linter.unusedVariables false
set_option linter.unusedSimpArgs false
namespace Go.Proofs.Ytpjapdkefjbimaa.Bits
open Go.RowKit Go.Proofs.Ytpjapdkefjbimaa.P Go.Proofs.Ytpjapdkefjbimaa.E Go.Proofs.YtpjapdkefjbimaaW.PrintWords Go.Proofs.YtpjapdkefjbimaaW.PrintLast Go.Proofs.YtpjapdkefjbimaaW.PrintMore

/-- Byte j of bits: its eight bits, those beyond the end 0. -/
def byteN (l : List Bool) (j : Nat) : Nat :=
  (l.getD (8 * j) false).toNat + 2 * (l.getD (8 * j + 1) false).toNat + 4 * (l.getD (8 * j + 2) false).toNat + 8 * (l.getD (8 * j + 3) false).toNat +
  16 * (l.getD (8 * j + 4) false).toNat + 32 * (l.getD (8 * j + 5) false).toNat + 64 * (l.getD (8 * j + 6) false).toNat + 128 * (l.getD (8 * j + 7) false).toNat
def bytesN (n : Nat) : Nat := (n + 7) / 8
/-- Bits in bytes. -/
def packS (l : List Bool) : List Int := (List.range (bytesN l.length)).map fun j => (byteN l j : Int)
/-- Bit i of bytes. -/
def bitAt (b : List Int) (i : Nat) : Bool := ((b.getD (i / 8) 0).toNat / 2 ^ (i % 8)) % 2 == 1
def unpackS (b : List Int) (n : Nat) : List Bool := (List.range n).map (bitAt b)
/-- No bit of bytes is set from n on. -/
def tail0 (b : List Int) (n : Nat) : Bool := (List.range (8 * b.length)).all fun i => decide (i < n) || !bitAt b i
def unpackR (b : List Int) (n : Int) : List Bool × Bool :=
  if n < 0 ∨ b.length ≠ bytesN n.toNat ∨ tail0 b n.toNat = false then ([], false) else (unpackS b n.toNat, true)

theorem toNat_le (b : Bool) : b.toNat ≤ 1 := by cases b <;> simp

theorem many_nat (n : Nat) (h : (n : Int) < 9223372036854775808) : bits_Many.f (n : Int) = some (bytesN n : Int) := by
  unfold bits_Many.f bytesN
  by_cases h1 : (n : Int) < 1
  · rw [if_pos h1]
    have : n = 0 := by omega
    subst this; rfl
  · rw [if_neg h1, wrap64_id (x := (n : Int) - 1) (by omega) (by omega), tdiv_id (by omega), wrap64_id (x := ((n : Int) - 1) / 8) (by omega) (by omega), wrap64_id (by omega) (by omega)]
    congr 1
    omega
theorem many_int (n : Int) (h0 : -9223372036854775808 ≤ n) (h1 : n < 9223372036854775808) : bits_Many.f n = some (bytesN n.toNat : Int) := by
  by_cases h : 0 ≤ n
  · obtain ⟨m, rfl⟩ := Int.eq_ofNat_of_zero_le h
    exact many_nat m h1
  · unfold bits_Many.f
    rw [if_pos (by omega)]
    have : n.toNat = 0 := by omega
    rw [this]; rfl

theorem byteN_lt (l : List Bool) (j : Nat) : byteN l j < 256 := by
  unfold byteN
  have h0 := toNat_le (l.getD (8 * j) false)
  have h1 := toNat_le (l.getD (8 * j + 1) false)
  have h2 := toNat_le (l.getD (8 * j + 2) false)
  have h3 := toNat_le (l.getD (8 * j + 3) false)
  have h4 := toNat_le (l.getD (8 * j + 4) false)
  have h5 := toNat_le (l.getD (8 * j + 5) false)
  have h6 := toNat_le (l.getD (8 * j + 6) false)
  have h7 := toNat_le (l.getD (8 * j + 7) false)
  generalize (l.getD (8 * j) false).toNat = x0 at *
  generalize (l.getD (8 * j + 1) false).toNat = x1 at *
  generalize (l.getD (8 * j + 2) false).toNat = x2 at *
  generalize (l.getD (8 * j + 3) false).toNat = x3 at *
  generalize (l.getD (8 * j + 4) false).toNat = x4 at *
  generalize (l.getD (8 * j + 5) false).toNat = x5 at *
  generalize (l.getD (8 * j + 6) false).toNat = x6 at *
  generalize (l.getD (8 * j + 7) false).toNat = x7 at *
  omega
theorem bits8 (x0 x1 x2 x3 x4 x5 x6 x7 : Nat) (h0 : x0 ≤ 1) (h1 : x1 ≤ 1) (h2 : x2 ≤ 1) (h3 : x3 ≤ 1) (h4 : x4 ≤ 1) (h5 : x5 ≤ 1) (h6 : x6 ≤ 1) (h7 : x7 ≤ 1) :
    (x0 + 2 * x1 + 4 * x2 + 8 * x3 + 16 * x4 + 32 * x5 + 64 * x6 + 128 * x7) / 1 % 2 = x0 ∧ (x0 + 2 * x1 + 4 * x2 + 8 * x3 + 16 * x4 + 32 * x5 + 64 * x6 + 128 * x7) / 2 % 2 = x1 ∧ (x0 + 2 * x1 + 4 * x2 + 8 * x3 + 16 * x4 + 32 * x5 + 64 * x6 + 128 * x7) / 4 % 2 = x2 ∧ (x0 + 2 * x1 + 4 * x2 + 8 * x3 + 16 * x4 + 32 * x5 + 64 * x6 + 128 * x7) / 8 % 2 = x3 ∧ (x0 + 2 * x1 + 4 * x2 + 8 * x3 + 16 * x4 + 32 * x5 + 64 * x6 + 128 * x7) / 16 % 2 = x4 ∧ (x0 + 2 * x1 + 4 * x2 + 8 * x3 + 16 * x4 + 32 * x5 + 64 * x6 + 128 * x7) / 32 % 2 = x5 ∧ (x0 + 2 * x1 + 4 * x2 + 8 * x3 + 16 * x4 + 32 * x5 + 64 * x6 + 128 * x7) / 64 % 2 = x6 ∧ (x0 + 2 * x1 + 4 * x2 + 8 * x3 + 16 * x4 + 32 * x5 + 64 * x6 + 128 * x7) / 128 % 2 = x7 := by
  refine ⟨?_, ?_, ?_, ?_, ?_, ?_, ?_, ?_⟩ <;> omega
theorem byteN_bit (l : List Bool) (j t : Nat) (ht : t < 8) : (byteN l j / 2 ^ t) % 2 = (l.getD (8 * j + t) false).toNat := by
  obtain ⟨e0, e1, e2, e3, e4, e5, e6, e7⟩ := bits8 _ _ _ _ _ _ _ _ (toNat_le (l.getD (8 * j) false)) (toNat_le (l.getD (8 * j + 1) false)) (toNat_le (l.getD (8 * j + 2) false)) (toNat_le (l.getD (8 * j + 3) false)) (toNat_le (l.getD (8 * j + 4) false)) (toNat_le (l.getD (8 * j + 5) false)) (toNat_le (l.getD (8 * j + 6) false)) (toNat_le (l.getD (8 * j + 7) false))
  have : t = 0 ∨ t = 1 ∨ t = 2 ∨ t = 3 ∨ t = 4 ∨ t = 5 ∨ t = 6 ∨ t = 7 := by omega
  rcases this with rfl | rfl | rfl | rfl | rfl | rfl | rfl | rfl
  · exact e0
  · exact e1
  · exact e2
  · exact e3
  · exact e4
  · exact e5
  · exact e6
  · exact e7
theorem getD_take_succ (l : List Bool) (i p : Nat) : (l.take (i + 1)).getD p false = if p = i then l.getD i false else (l.take i).getD p false := by
  simp only [List.getD_eq_getElem?_getD, List.getElem?_take]
  by_cases h : p = i
  · subst h; simp
  · rw [if_neg h]
    by_cases h2 : p < i
    · rw [if_pos (by omega), if_pos h2]
    · rw [if_neg (by omega), if_neg h2]
theorem getD_take_at (l : List Bool) (i : Nat) : (l.take i).getD i false = false := by
  simp [List.getD_eq_getElem?_getD, List.getElem?_take]
theorem byteN_take (l : List Bool) (i j : Nat) : byteN (l.take (i + 1)) j = byteN (l.take i) j + if j = i / 8 then 2 ^ (i % 8) * (l.getD i false).toNat else 0 := by
  have hz := getD_take_at l i
  unfold byteN
  simp only [getD_take_succ]
  by_cases hj : j = i / 8
  · rw [if_pos hj]
    have : i % 8 = 0 ∨ i % 8 = 1 ∨ i % 8 = 2 ∨ i % 8 = 3 ∨ i % 8 = 4 ∨ i % 8 = 5 ∨ i % 8 = 6 ∨ i % 8 = 7 := by omega
    rcases this with h | h | h | h | h | h | h | h
    · have e : 8 * j = i := by omega
      rw [if_pos e, if_neg (show ¬ (8 * j + 1 = i) by omega), if_neg (show ¬ (8 * j + 2 = i) by omega), if_neg (show ¬ (8 * j + 3 = i) by omega), if_neg (show ¬ (8 * j + 4 = i) by omega), if_neg (show ¬ (8 * j + 5 = i) by omega), if_neg (show ¬ (8 * j + 6 = i) by omega), if_neg (show ¬ (8 * j + 7 = i) by omega), h, e, hz]
      generalize ((l.take i).getD (8 * j + 1) false).toNat = x1
      generalize ((l.take i).getD (8 * j + 2) false).toNat = x2
      generalize ((l.take i).getD (8 * j + 3) false).toNat = x3
      generalize ((l.take i).getD (8 * j + 4) false).toNat = x4
      generalize ((l.take i).getD (8 * j + 5) false).toNat = x5
      generalize ((l.take i).getD (8 * j + 6) false).toNat = x6
      generalize ((l.take i).getD (8 * j + 7) false).toNat = x7
      generalize (l.getD i false).toNat = y
      simp only [Bool.toNat_false, Nat.reducePow]
      clear hz h e hj
      omega
    · have e : 8 * j + 1 = i := by omega
      rw [if_neg (show ¬ (8 * j = i) by omega), if_pos e, if_neg (show ¬ (8 * j + 2 = i) by omega), if_neg (show ¬ (8 * j + 3 = i) by omega), if_neg (show ¬ (8 * j + 4 = i) by omega), if_neg (show ¬ (8 * j + 5 = i) by omega), if_neg (show ¬ (8 * j + 6 = i) by omega), if_neg (show ¬ (8 * j + 7 = i) by omega), h, e, hz]
      generalize ((l.take i).getD (8 * j) false).toNat = x0
      generalize ((l.take i).getD (8 * j + 2) false).toNat = x2
      generalize ((l.take i).getD (8 * j + 3) false).toNat = x3
      generalize ((l.take i).getD (8 * j + 4) false).toNat = x4
      generalize ((l.take i).getD (8 * j + 5) false).toNat = x5
      generalize ((l.take i).getD (8 * j + 6) false).toNat = x6
      generalize ((l.take i).getD (8 * j + 7) false).toNat = x7
      generalize (l.getD i false).toNat = y
      simp only [Bool.toNat_false, Nat.reducePow]
      clear hz h e hj
      omega
    · have e : 8 * j + 2 = i := by omega
      rw [if_neg (show ¬ (8 * j = i) by omega), if_neg (show ¬ (8 * j + 1 = i) by omega), if_pos e, if_neg (show ¬ (8 * j + 3 = i) by omega), if_neg (show ¬ (8 * j + 4 = i) by omega), if_neg (show ¬ (8 * j + 5 = i) by omega), if_neg (show ¬ (8 * j + 6 = i) by omega), if_neg (show ¬ (8 * j + 7 = i) by omega), h, e, hz]
      generalize ((l.take i).getD (8 * j) false).toNat = x0
      generalize ((l.take i).getD (8 * j + 1) false).toNat = x1
      generalize ((l.take i).getD (8 * j + 3) false).toNat = x3
      generalize ((l.take i).getD (8 * j + 4) false).toNat = x4
      generalize ((l.take i).getD (8 * j + 5) false).toNat = x5
      generalize ((l.take i).getD (8 * j + 6) false).toNat = x6
      generalize ((l.take i).getD (8 * j + 7) false).toNat = x7
      generalize (l.getD i false).toNat = y
      simp only [Bool.toNat_false, Nat.reducePow]
      clear hz h e hj
      omega
    · have e : 8 * j + 3 = i := by omega
      rw [if_neg (show ¬ (8 * j = i) by omega), if_neg (show ¬ (8 * j + 1 = i) by omega), if_neg (show ¬ (8 * j + 2 = i) by omega), if_pos e, if_neg (show ¬ (8 * j + 4 = i) by omega), if_neg (show ¬ (8 * j + 5 = i) by omega), if_neg (show ¬ (8 * j + 6 = i) by omega), if_neg (show ¬ (8 * j + 7 = i) by omega), h, e, hz]
      generalize ((l.take i).getD (8 * j) false).toNat = x0
      generalize ((l.take i).getD (8 * j + 1) false).toNat = x1
      generalize ((l.take i).getD (8 * j + 2) false).toNat = x2
      generalize ((l.take i).getD (8 * j + 4) false).toNat = x4
      generalize ((l.take i).getD (8 * j + 5) false).toNat = x5
      generalize ((l.take i).getD (8 * j + 6) false).toNat = x6
      generalize ((l.take i).getD (8 * j + 7) false).toNat = x7
      generalize (l.getD i false).toNat = y
      simp only [Bool.toNat_false, Nat.reducePow]
      clear hz h e hj
      omega
    · have e : 8 * j + 4 = i := by omega
      rw [if_neg (show ¬ (8 * j = i) by omega), if_neg (show ¬ (8 * j + 1 = i) by omega), if_neg (show ¬ (8 * j + 2 = i) by omega), if_neg (show ¬ (8 * j + 3 = i) by omega), if_pos e, if_neg (show ¬ (8 * j + 5 = i) by omega), if_neg (show ¬ (8 * j + 6 = i) by omega), if_neg (show ¬ (8 * j + 7 = i) by omega), h, e, hz]
      generalize ((l.take i).getD (8 * j) false).toNat = x0
      generalize ((l.take i).getD (8 * j + 1) false).toNat = x1
      generalize ((l.take i).getD (8 * j + 2) false).toNat = x2
      generalize ((l.take i).getD (8 * j + 3) false).toNat = x3
      generalize ((l.take i).getD (8 * j + 5) false).toNat = x5
      generalize ((l.take i).getD (8 * j + 6) false).toNat = x6
      generalize ((l.take i).getD (8 * j + 7) false).toNat = x7
      generalize (l.getD i false).toNat = y
      simp only [Bool.toNat_false, Nat.reducePow]
      clear hz h e hj
      omega
    · have e : 8 * j + 5 = i := by omega
      rw [if_neg (show ¬ (8 * j = i) by omega), if_neg (show ¬ (8 * j + 1 = i) by omega), if_neg (show ¬ (8 * j + 2 = i) by omega), if_neg (show ¬ (8 * j + 3 = i) by omega), if_neg (show ¬ (8 * j + 4 = i) by omega), if_pos e, if_neg (show ¬ (8 * j + 6 = i) by omega), if_neg (show ¬ (8 * j + 7 = i) by omega), h, e, hz]
      generalize ((l.take i).getD (8 * j) false).toNat = x0
      generalize ((l.take i).getD (8 * j + 1) false).toNat = x1
      generalize ((l.take i).getD (8 * j + 2) false).toNat = x2
      generalize ((l.take i).getD (8 * j + 3) false).toNat = x3
      generalize ((l.take i).getD (8 * j + 4) false).toNat = x4
      generalize ((l.take i).getD (8 * j + 6) false).toNat = x6
      generalize ((l.take i).getD (8 * j + 7) false).toNat = x7
      generalize (l.getD i false).toNat = y
      simp only [Bool.toNat_false, Nat.reducePow]
      clear hz h e hj
      omega
    · have e : 8 * j + 6 = i := by omega
      rw [if_neg (show ¬ (8 * j = i) by omega), if_neg (show ¬ (8 * j + 1 = i) by omega), if_neg (show ¬ (8 * j + 2 = i) by omega), if_neg (show ¬ (8 * j + 3 = i) by omega), if_neg (show ¬ (8 * j + 4 = i) by omega), if_neg (show ¬ (8 * j + 5 = i) by omega), if_pos e, if_neg (show ¬ (8 * j + 7 = i) by omega), h, e, hz]
      generalize ((l.take i).getD (8 * j) false).toNat = x0
      generalize ((l.take i).getD (8 * j + 1) false).toNat = x1
      generalize ((l.take i).getD (8 * j + 2) false).toNat = x2
      generalize ((l.take i).getD (8 * j + 3) false).toNat = x3
      generalize ((l.take i).getD (8 * j + 4) false).toNat = x4
      generalize ((l.take i).getD (8 * j + 5) false).toNat = x5
      generalize ((l.take i).getD (8 * j + 7) false).toNat = x7
      generalize (l.getD i false).toNat = y
      simp only [Bool.toNat_false, Nat.reducePow]
      clear hz h e hj
      omega
    · have e : 8 * j + 7 = i := by omega
      rw [if_neg (show ¬ (8 * j = i) by omega), if_neg (show ¬ (8 * j + 1 = i) by omega), if_neg (show ¬ (8 * j + 2 = i) by omega), if_neg (show ¬ (8 * j + 3 = i) by omega), if_neg (show ¬ (8 * j + 4 = i) by omega), if_neg (show ¬ (8 * j + 5 = i) by omega), if_neg (show ¬ (8 * j + 6 = i) by omega), if_pos e, h, e, hz]
      generalize ((l.take i).getD (8 * j) false).toNat = x0
      generalize ((l.take i).getD (8 * j + 1) false).toNat = x1
      generalize ((l.take i).getD (8 * j + 2) false).toNat = x2
      generalize ((l.take i).getD (8 * j + 3) false).toNat = x3
      generalize ((l.take i).getD (8 * j + 4) false).toNat = x4
      generalize ((l.take i).getD (8 * j + 5) false).toNat = x5
      generalize ((l.take i).getD (8 * j + 6) false).toNat = x6
      generalize (l.getD i false).toNat = y
      simp only [Bool.toNat_false, Nat.reducePow]
      clear hz h e hj
      omega
  · rw [if_neg hj, if_neg (show ¬ (8 * j = i) by omega), if_neg (show ¬ (8 * j + 1 = i) by omega), if_neg (show ¬ (8 * j + 2 = i) by omega), if_neg (show ¬ (8 * j + 3 = i) by omega), if_neg (show ¬ (8 * j + 4 = i) by omega),
      if_neg (show ¬ (8 * j + 5 = i) by omega), if_neg (show ¬ (8 * j + 6 = i) by omega), if_neg (show ¬ (8 * j + 7 = i) by omega)]
    rfl
theorem or_bit : ∀ a : Fin 256, ∀ t : Fin 8, a.val / 2 ^ t.val % 2 = 0 → Go.bits .or .u8 (a.val : Int) (shl .u8 1 (t.val : Int)) = ((a.val + 2 ^ t.val : Nat) : Int) := by decide +kernel
theorem or_bit' (a t : Nat) (ha : a < 256) (ht : t < 8) (h : a / 2 ^ t % 2 = 0) : Go.bits .or .u8 (a : Int) (shl .u8 1 (t : Int)) = ((a + 2 ^ t : Nat) : Int) := or_bit ⟨a, ha⟩ ⟨t, ht⟩ h

/-- The loop's list, i bits done. -/
def upTo (l : List Bool) (i : Nat) : List Int := (List.range (bytesN l.length)).map fun j => (byteN (l.take i) j : Int)
theorem upTo_all (l : List Bool) : upTo l l.length = packS l := by unfold upTo packS; rw [List.take_length]
theorem upTo_zero (l : List Bool) : upTo l 0 = List.replicate (bytesN l.length) 0 := by
  unfold upTo
  refine List.ext_getElem (by simp) fun j h1 h2 => ?_
  simp [byteN]
theorem upTo_rd (l : List Bool) (i : Nat) (j : Nat) (hj : j < bytesN l.length) : rd (upTo l i) (j : Int) = (byteN (l.take i) j : Int) := by
  unfold rd upTo
  simp [List.getD_eq_getElem?_getD, hj]
theorem upTo_same (l : List Bool) (i : Nat) (h : l.getD i false = false) : upTo l (i + 1) = upTo l i := by
  unfold upTo
  refine List.map_congr_left fun j _ => ?_
  rw [byteN_take, h]; simp
theorem upTo_set (l : List Bool) (i : Nat) (hi : i < l.length) (h : l.getD i false = true) : upTo l (i + 1) = (upTo l i).set (i / 8) ((byteN (l.take i) (i / 8) + 2 ^ (i % 8) : Nat) : Int) := by
  apply List.ext_getElem
  · simp [upTo]
  · intro j h1 h2
    simp only [upTo, List.length_map, List.length_range] at h1
    rw [List.getElem_set]
    simp only [upTo, List.getElem_map, List.getElem_range]
    rw [byteN_take, h]
    by_cases e : i / 8 = j
    · subst e; simp
    · rw [if_neg e, if_neg (fun h => e h.symm)]; simp

theorem rdOf_nat (l : List Bool) (i : Nat) : rdOf false l (i : Int) = l.getD i false := by simp [rdOf]

theorem pack_loop (l : List Bool) (hl : (l.length : Int) < 9223372036854775800) (d : Nat) : ∀ k i, i ≤ l.length → l.length - i = d → d < k → bits_Pack.l0 k (upTo l i) l l.length i = some (packS l) := by
  induction d with
  | zero =>
    intro k i h1 h2 hk
    obtain ⟨k, rfl⟩ : ∃ m, k = m + 1 := ⟨k - 1, by omega⟩
    have : i = l.length := by omega
    subst this
    simp only [bits_Pack.l0]
    rw [if_neg (by omega), upTo_all]
  | succ d ih =>
    intro k i h1 h2 hk
    obtain ⟨k, rfl⟩ : ∃ m, k = m + 1 := ⟨k - 1, by omega⟩
    have hi : i < l.length := by omega
    have hlen : (upTo l i).length = bytesN l.length := by simp [upTo]
    have hb : i / 8 < bytesN l.length := by unfold bytesN; omega
    have c1 : (i : Int) < (l.length : Int) := by omega
    have c2 : (0 : Int) ≤ (i : Int) := by omega
    have c4 : (0 : Int) ≤ ((i / 8 : Nat) : Int) := by omega
    have c5 : ((i / 8 : Nat) : Int) < ((upTo l i).length : Int) := by rw [hlen]; omega
    have c6 : (0 : Int) ≤ ((i % 8 : Nat) : Int) := by omega
    have c7 : i % 8 < 8 := by omega
    have c8 : 8 * (i / 8) + i % 8 = i := by omega
    have d1 : (i : Int) / 8 = ((i / 8 : Nat) : Int) := by omega
    have d2 : (i : Int) % 8 = ((i % 8 : Nat) : Int) := by omega
    have d3 : (i : Int) + 1 = ((i + 1 : Nat) : Int) := by omega
    have e1 : ((i / 8 : Nat) : Int) < 9223372036854775808 := by omega
    have e2 : -9223372036854775808 ≤ ((i / 8 : Nat) : Int) := by omega
    have e3 : ((i + 1 : Nat) : Int) < 9223372036854775808 := by omega
    have e4 : -9223372036854775808 ≤ ((i + 1 : Nat) : Int) := by omega
    have hnext := ih k (i + 1) (by omega) (by omega) (by omega)
    simp only [bits_Pack.l0]
    rw [if_pos c1, if_pos c2, if_pos c1, rdOf_nat, d3, wrap64_id e4 e3, tdiv_id c2, tmod_id c2, d1, d2, wrap64_id e2 e1]
    cases hb0 : l.getD i false with
    | false => rw [if_neg (by simp), ← upTo_same l i hb0]; exact hnext
    | true =>
      rw [if_pos rfl, if_pos c4, if_pos c5, if_pos c6, upTo_rd l i _ hb, Int.toNat_natCast, or_bit' _ _ (byteN_lt _ _) c7 (by rw [byteN_bit _ _ _ c7, c8, getD_take_at]; rfl), ← upTo_set l i hi hb0]
      exact hnext
theorem pack_at (l : List Bool) (hl : l.length ≤ 140737488351232) : bits_Pack.f (l.length + 1) l = some (packS l) := by
  unfold bits_Pack.f
  rw [many_nat _ (by omega)]
  simp only [Option.bind_some]
  rw [if_pos (show (0 : Int) ≤ (bytesN l.length : Int) by omega), Int.toNat_natCast, if_pos (show bytesN l.length ≤ 281474976710656 by unfold bytesN; omega), ← upTo_zero]
  have h := pack_loop l (by omega) l.length (l.length + 1) 0 (by omega) (by omega) (by omega)
  rw [Int.natCast_zero] at h
  exact h
theorem pack_ev (l : List Bool) (hl : l.length ≤ 140737488351232) : Ev (fun k => bits_Pack.f k l) (packS l) := Ev.of (bits_Pack.mono l) (pack_at l hl)

/-! Reading them -/
theorem and_bit : ∀ a : Fin 256, ∀ t : Fin 8, Go.bits .and .u8 (shr .u8 (a.val : Int) (t.val : Int)) 1 = ((a.val / 2 ^ t.val % 2 : Nat) : Int) := by decide +kernel
theorem and_at {b : List Int} (hb : isBytes b) (i : Nat) : Go.bits .and .u8 (shr .u8 (rd b ((i / 8 : Nat) : Int)) ((i % 8 : Nat) : Int)) 1 = if bitAt b i then 1 else 0 := by
  obtain ⟨h0, h1⟩ := isBytes_rd hb (i / 8)
  obtain ⟨a, ha⟩ := Int.eq_ofNat_of_zero_le h0
  have h2 : rd b ((i / 8 : Nat) : Int) = (a : Int) := by unfold rd; rw [Int.toNat_natCast]; exact ha
  rw [h2, and_bit ⟨a, by omega⟩ ⟨i % 8, by omega⟩]
  unfold bitAt
  rw [ha, Int.toNat_natCast]
  have h3 : a / 2 ^ (i % 8) % 2 = 0 ∨ a / 2 ^ (i % 8) % 2 = 1 := by omega
  rcases h3 with h3 | h3 <;> simp [h3]
/-- The loop's list, i bits done. -/
def unTo (b : List Int) (n i : Nat) : List Bool := (List.range n).map fun p => decide (p < i) && bitAt b p
theorem unTo_zero (b : List Int) (n : Nat) : unTo b n 0 = List.replicate n false := by
  unfold unTo
  refine List.ext_getElem (by simp) fun j h1 h2 => ?_
  simp
theorem unTo_all (b : List Int) (n i : Nat) (h : n ≤ i) : unTo b n i = unpackS b n := by
  unfold unTo unpackS
  refine List.map_congr_left fun p hp => ?_
  have := List.mem_range.1 hp
  rw [decide_eq_true (by omega)]; rfl
theorem unTo_set (b : List Int) (n i : Nat) (h : i < n) : (unTo b n i).set i (bitAt b i) = unTo b n (i + 1) := by
  apply List.ext_getElem
  · simp [unTo]
  · intro j h1 h2
    rw [List.getElem_set]
    simp only [unTo, List.getElem_map, List.getElem_range]
    by_cases e : i = j
    · subst e; simp
    · rw [if_neg e]
      congr 1
      simp only [decide_eq_decide]; omega
theorem unTo_over (b : List Int) (n i : Nat) (h : n ≤ i) : unTo b n (i + 1) = unTo b n i := by rw [unTo_all b n i h, unTo_all b n (i + 1) (by omega)]
/-- From i on no bit beyond n is set. -/
def free (b : List Int) (n i : Nat) : Bool := (List.range (8 * b.length - i)).all fun j => decide (i + j < n) || !bitAt b (i + j)
theorem free_end (b : List Int) (n i : Nat) (h : 8 * b.length ≤ i) : free b n i = true := by
  unfold free
  rw [show 8 * b.length - i = 0 by omega]; rfl
theorem free_zero (b : List Int) (n : Nat) : free b n 0 = tail0 b n := by unfold free tail0; simp
theorem free_step (b : List Int) (n i : Nat) (h : i < 8 * b.length) : free b n i = ((decide (i < n) || !bitAt b i) && free b n (i + 1)) := by
  unfold free
  obtain ⟨m, hm⟩ : ∃ m, 8 * b.length - i = m + 1 := ⟨8 * b.length - i - 1, by omega⟩
  rw [hm, List.range_succ_eq_map, List.all_cons, List.all_map, show 8 * b.length - (i + 1) = m by omega]
  congr 1
  refine congrArg (fun f => List.all (List.range m) f) (funext fun j => ?_)
  simp only [Function.comp, Nat.succ_eq_add_one, show i + (j + 1) = i + 1 + j by omega]
theorem unpack_loop (b : List Int) (n : Nat) (hb : isBytes b) (hl : b.length ≤ 1000000) (hn : (n : Int) < 9223372036854775800) (d : Nat) : ∀ k i, i ≤ 8 * b.length → 8 * b.length - i = d → d < k →
    bits_Unpack.l0 k b n (unTo b n i) ((8 * b.length : Nat) : Int) i = some (if free b n i then (unpackS b n, true) else ([], false)) ∨ 8 * b.length < n := by
  induction d with
  | zero =>
    intro k i h1 h2 hk
    obtain ⟨k, rfl⟩ : ∃ m, k = m + 1 := ⟨k - 1, by omega⟩
    by_cases hbig : 8 * b.length < n
    · exact .inr hbig
    · left
      simp only [bits_Unpack.l0]
      rw [if_neg (by omega), free_end b n i (by omega), if_pos rfl, unTo_all b n i (by omega)]
  | succ d ih =>
    intro k i h1 h2 hk
    obtain ⟨k, rfl⟩ : ∃ m, k = m + 1 := ⟨k - 1, by omega⟩
    by_cases hbig : 8 * b.length < n
    · exact .inr hbig
    left
    have hi : i < 8 * b.length := by omega
    have hlen : (unTo b n i).length = n := by simp [unTo]
    have c1 : (i : Int) < ((8 * b.length : Nat) : Int) := by omega
    have c2 : (0 : Int) ≤ (i : Int) := by omega
    have c4 : (0 : Int) ≤ ((i / 8 : Nat) : Int) := by omega
    have c5 : ((i / 8 : Nat) : Int) < (b.length : Int) := by omega
    have c6 : (0 : Int) ≤ ((i % 8 : Nat) : Int) := by omega
    have d1 : (i : Int) / 8 = ((i / 8 : Nat) : Int) := by omega
    have d2 : (i : Int) % 8 = ((i % 8 : Nat) : Int) := by omega
    have d3 : (i : Int) + 1 = ((i + 1 : Nat) : Int) := by omega
    have e1 : ((i / 8 : Nat) : Int) < 9223372036854775808 := by omega
    have e2 : -9223372036854775808 ≤ ((i / 8 : Nat) : Int) := by omega
    have e3 : ((i + 1 : Nat) : Int) < 9223372036854775808 := by omega
    have e4 : -9223372036854775808 ≤ ((i + 1 : Nat) : Int) := by omega
    have hnext := (ih k (i + 1) (by omega) (by omega) (by omega)).resolve_right hbig
    have f1 : i < n → (i : Int) < (n : Int) := fun h => by omega
    have f2 : i < n → (i : Int) < ((unTo b n i).length : Int) := fun h => by rw [hlen]; omega
    have f3 : ¬ i < n → ¬ (i : Int) < (n : Int) := fun h => by omega
    have f4 : ¬ i < n → n ≤ i := fun h => by omega
    simp only [bits_Unpack.l0]
    rw [if_pos c1, tdiv_id c2, tmod_id c2, d1, d2, wrap64_id e2 e1, if_pos c4, if_pos c5, if_pos c6, d3, wrap64_id e4 e3, and_at hb]
    by_cases hn' : i < n
    · rw [if_pos (f1 hn'), if_pos c2, if_pos (f2 hn'), Int.toNat_natCast, free_step b n i hi]
      have : (unTo b n i).set i ((if bitAt b i then (1 : Int) else 0) == 1) = unTo b n (i + 1) := by
        rw [← unTo_set b n i hn']
        congr 1
        cases bitAt b i <;> rfl
      rw [this, decide_eq_true hn', Bool.true_or, Bool.true_and]
      exact hnext
    · rw [if_neg (f3 hn'), free_step b n i hi, decide_eq_false hn', Bool.false_or, ← unTo_over b n i (f4 hn')]
      cases hbit : bitAt b i with
      | true => rw [if_pos (by simp)]; simp
      | false => rw [if_neg (by simp)]; simpa using hnext
theorem unpack_ev (b : List Int) (n : Int) (hb : isBytes b) (hl : b.length ≤ 1000000) (h0 : -9223372036854775808 ≤ n) (h1 : n < 9223372036854775808) : Ev (fun k => bits_Unpack.f k b n) (unpackR b n) := by
  unfold unpackR
  by_cases hneg : n < 0
  · rw [if_pos (.inl hneg)]
    refine ⟨1, fun k hk => ?_⟩
    obtain ⟨k, rfl⟩ : ∃ m, k = m + 1 := ⟨k - 1, by omega⟩
    show bits_Unpack.f (k + 1) b n = _
    unfold bits_Unpack.f
    rw [if_pos hneg]
    simp [bits_Unpack.j0]
  · obtain ⟨m, rfl⟩ := Int.eq_ofNat_of_zero_le (show 0 ≤ n by omega)
    simp only [Int.ofNat_eq_natCast, Int.toNat_natCast] at *
    by_cases hlen : b.length = bytesN m
    · have hm8 : ¬ 8 * b.length < m := by unfold bytesN at hlen; omega
      refine ⟨8 * b.length + 2, fun k hk => ?_⟩
      obtain ⟨k, rfl⟩ : ∃ m, k = m + 1 := ⟨k - 1, by omega⟩
      show bits_Unpack.f (k + 1) b (m : Int) = _
      unfold bits_Unpack.f
      rw [if_neg hneg, many_nat _ (by omega)]
      simp only [Option.bind_some, bits_Unpack.j0]
      have hz : ((b.length : Int) != (bytesN m : Int)) = false := by rw [hlen]; simp
      rw [hz, if_neg (show ¬ (false = true) by simp), if_pos (show (0 : Int) ≤ (m : Int) by omega), Int.toNat_natCast, if_pos (show m ≤ 281474976710656 by unfold bytesN at hlen; omega), ← unTo_zero b m, show (8 * (b.length : Int)) = ((8 * b.length : Nat) : Int) by omega, wrap64_id (by omega) (by omega)]
      have := (unpack_loop b m hb hl (by unfold bytesN at hlen; omega) (8 * b.length) k 0 (by omega) (by omega) (by omega)).resolve_right hm8
      rw [free_zero, Int.natCast_zero] at this
      rw [this]
      cases tail0 b m with
      | true => rw [if_pos rfl, if_neg (by simp [hlen])]
      | false => rw [if_neg (by simp), if_pos (by simp)]
    · rw [if_pos (.inr (.inl hlen))]
      refine ⟨1, fun k hk => ?_⟩
      obtain ⟨k, rfl⟩ : ∃ m, k = m + 1 := ⟨k - 1, by omega⟩
      show bits_Unpack.f (k + 1) b (m : Int) = _
      unfold bits_Unpack.f
      rw [if_neg hneg, many_nat _ (by omega)]
      simp only [Option.bind_some, bits_Unpack.j0]
      rw [if_pos (by simp; omega)]

/-! Both ways -/
theorem packS_length (l : List Bool) : (packS l).length = bytesN l.length := by simp [packS]
theorem packS_bytes (l : List Bool) : isBytes (packS l) := by
  intro x hx
  simp only [packS, List.mem_map] at hx
  obtain ⟨j, _, rfl⟩ := hx
  have := byteN_lt l j
  omega
theorem packS_get (l : List Bool) (j : Nat) : (packS l).getD j 0 = (byteN l j : Int) := by
  by_cases h : j < bytesN l.length
  · simp [packS, List.getD_eq_getElem?_getD, h]
  · rw [List.getD_eq_getElem?_getD, List.getElem?_eq_none (by rw [packS_length]; omega)]
    have e : ∀ p, 8 * j ≤ p → l.getD p false = false := fun p hp => by rw [List.getD_eq_getElem?_getD, List.getElem?_eq_none (by unfold bytesN at h; omega)]; rfl
    unfold byteN
    rw [e (8 * j) (by omega), e (8 * j + 1) (by omega), e (8 * j + 2) (by omega), e (8 * j + 3) (by omega), e (8 * j + 4) (by omega), e (8 * j + 5) (by omega), e (8 * j + 6) (by omega), e (8 * j + 7) (by omega)]
    rfl
theorem bitAt_packS (l : List Bool) (i : Nat) : bitAt (packS l) i = l.getD i false := by
  unfold bitAt
  rw [packS_get, Int.toNat_natCast, byteN_bit _ _ _ (by omega), show 8 * (i / 8) + i % 8 = i by omega]
  cases l.getD i false <;> rfl
theorem unpackS_packS (l : List Bool) : unpackS (packS l) l.length = l := by
  apply List.ext_getElem
  · simp [unpackS]
  · intro i h1 h2
    simp only [unpackS, List.getElem_map, List.getElem_range, bitAt_packS]
    rw [List.getD_eq_getElem?_getD, List.getElem?_eq_getElem h2]; rfl
theorem tail0_packS (l : List Bool) : tail0 (packS l) l.length = true := by
  unfold tail0
  rw [List.all_eq_true]
  intro i _
  rw [bitAt_packS]
  by_cases h : i < l.length
  · simp [h]
  · rw [List.getD_eq_getElem?_getD, List.getElem?_eq_none (by omega)]; simp
theorem unpackR_packS (l : List Bool) : unpackR (packS l) l.length = (l, true) := by
  unfold unpackR
  rw [if_neg, Int.toNat_natCast, unpackS_packS]
  rw [Int.toNat_natCast, packS_length, tail0_packS]
  simp
theorem byteN_bits {b : Nat} (hb : b < 256) : b = b % 2 + 2 * (b / 2 % 2) + 4 * (b / 4 % 2) + 8 * (b / 8 % 2) + 16 * (b / 16 % 2) + 32 * (b / 32 % 2) + 64 * (b / 64 % 2) + 128 * (b / 128 % 2) := by omega
theorem unpackS_getD (b : List Int) (n i : Nat) : (unpackS b n).getD i false = (decide (i < n) && bitAt b i) := by
  unfold unpackS
  by_cases h : i < n
  · simp [List.getD_eq_getElem?_getD, h]
  · simp [List.getD_eq_getElem?_getD, h]
theorem bit_toNat (x : Nat) : ((x % 2 == 1 : Bool)).toNat = x % 2 := by
  have : x % 2 = 0 ∨ x % 2 = 1 := by omega
  rcases this with h | h <;> rw [h] <;> rfl
/-- What is unpacked is packed again. -/
theorem packS_unpackS (b : List Int) (n : Nat) (hb : isBytes b) (hl : b.length = bytesN n) (ht : tail0 b n = true) : packS (unpackS b n) = b := by
  have hun : (unpackS b n).length = n := by simp [unpackS]
  apply List.ext_getElem
  · rw [packS_length, hun, hl]
  · intro j h1 h2
    have hg : (packS (unpackS b n))[j] = (byteN (unpackS b n) j : Int) := by
      have := packS_get (unpackS b n) j
      rw [List.getD_eq_getElem?_getD, List.getElem?_eq_getElem h1] at this
      simpa using this
    rw [hg]
    obtain ⟨h3, h4⟩ := hb _ (List.getElem_mem h2)
    obtain ⟨a, ha⟩ := Int.eq_ofNat_of_zero_le h3
    have hbit : ∀ t, t < 8 → ((unpackS b n).getD (8 * j + t) false).toNat = a / 2 ^ t % 2 := by
      intro t ht8
      have hB : bitAt b (8 * j + t) = (a / 2 ^ t % 2 == 1) := by
        unfold bitAt
        rw [show (8 * j + t) / 8 = j by omega, show (8 * j + t) % 8 = t by omega, List.getD_eq_getElem?_getD, List.getElem?_eq_getElem h2]
        simp only [Option.getD_some, ha]
        rfl
      rw [unpackS_getD]
      by_cases hlt : 8 * j + t < n
      · rw [decide_eq_true hlt, Bool.true_and, hB, bit_toNat]
      · rw [decide_eq_false hlt, Bool.false_and]
        unfold tail0 at ht
        rw [List.all_eq_true] at ht
        have := ht (8 * j + t) (List.mem_range.2 (by omega))
        rw [decide_eq_false hlt, Bool.false_or, hB] at this
        have h5 : a / 2 ^ t % 2 = 0 ∨ a / 2 ^ t % 2 = 1 := by omega
        rcases h5 with h5 | h5
        · rw [h5]; rfl
        · rw [h5] at this; simp at this
    have ha2 : a < 256 := by rw [ha] at h4; exact Int.ofNat_lt.1 h4
    rw [ha]
    unfold byteN
    have e0 := hbit 0 (by omega); have e1 := hbit 1 (by omega); have e2 := hbit 2 (by omega); have e3 := hbit 3 (by omega)
    have e4 := hbit 4 (by omega); have e5 := hbit 5 (by omega); have e6 := hbit 6 (by omega); have e7 := hbit 7 (by omega)
    simp only [Nat.add_zero, Nat.reducePow, Nat.div_one] at e0 e1 e2 e3 e4 e5 e6 e7
    rw [e0, e1, e2, e3, e4, e5, e6, e7]
    have := byteN_bits ha2
    show ((_ : Nat) : Int) = ((a : Nat) : Int)
    omega
end Go.Proofs.Ytpjapdkefjbimaa.Bits
