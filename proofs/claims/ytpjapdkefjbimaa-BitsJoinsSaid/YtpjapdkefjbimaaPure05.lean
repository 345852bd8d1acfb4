/- The four laws of bits, over what the functions compute. -/
import Derived.Test.YtpjapdkefjbimaaRefBits
import Derived.Test.YtpjapdkefjbimaaRef01
import Derived.Test.YtpjapdkefjbimaaPx5
import Derived.Test.YtpjapdkefjbimaaPx10
import Derived.Test.YtpjapdkefjbimaaPx11
import Derived.Test.YtpjapdkefjbimaaPx12
import Derived.Test.YtpjapdkefjbimaaPx13
set_option linter.unusedVariables false
set_option linter.unusedSimpArgs false
namespace Go.Proofs.Ytpjapdkefjbimaa.Pure
open Go.RowKit Go.Proofs.Ytpjapdkefjbimaa.P Go.Proofs.Ytpjapdkefjbimaa.E Go.Proofs.Ytpjapdkefjbimaa.Bits Go.Proofs.YtpjapdkefjbimaaW.PrintWords Go.Proofs.YtpjapdkefjbimaaW.PrintLast Go.Proofs.YtpjapdkefjbimaaW.PrintMore

theorem awake : Ev (fun k => busbarlaw05_awake.f k) true := Ev.of busbarlaw05_awake.mono (k := 60) (by decide +kernel)
theorem w16 {n : Int} (h0 : 0 ≤ n) (h1 : n < 65536) : wrap64 n = n := wrap64_id (by omega) (by omega)

theorem back (l : List Bool) (n : Int) (h0 : 0 ≤ n) (h1 : n < 65536) : ∃ k, busbarlaw05_BitsBack.f k l n = some true := by
  refine Ev.rounds (g := fun k => busbarlaw05_BitsBack.f k l n) ?_
  unfold busbarlaw05_BitsBack.f
  rw [w16 h0 h1]
  refine Ev.bind awake ?_
  by_cases hl : (l.length : Int) > 300
  · exact pos hl (Ev.now _)
  have hlen : l.length ≤ 300 := by omega
  refine neg hl ?_
  refine Ev.bind (pack_ev l (by omega)) ?_
  have hb := packS_bytes l
  have hp : (packS l).length ≤ 1000000 := by rw [packS_length]; unfold bytesN; omega
  have u1 := unpack_ev (packS l) l.length hb hp (by omega) (by omega)
  rw [unpackR_packS] at u1
  refine Ev.bind u1 ?_
  refine Ev.bind (unpack_ev (packS l) n hb hp (by omega) (by omega)) ?_
  have hend : Ev (fun k => busbarlaw05_BitsBack.j0 k l true (packS l) l true false) true := by
    refine Ev.step (f := fun k => (busbarref01_Bools.f k l l).bind fun t => if t = true then (bits_Many.f (l.length : Int)).bind fun t2 => some ((((packS l).length : Int)) == t2) else some false) (fun k => ?_) ?_
    · simp only [busbarlaw05_BitsBack.j0]; rfl
    · refine Ev.bind (f := fun _ t => if t = true then (bits_Many.f (l.length : Int)).bind fun t2 => some ((((packS l).length : Int)) == t2) else some false) (R01.bools_ev l l (by omega)) ?_
      refine pos (by simp) ?_
      rw [Bits.many_nat _ (by omega), packS_length]
      exact ret (by simp)
  by_cases h2 : (unpackR (packS l) n).2 = true
  · refine pos h2 ?_
    have hr : (unpackR (packS l) n).1.length = n.toNat ∧ (packS l).length = bytesN n.toNat := by
      unfold unpackR at h2 ⊢
      split at h2
      · cases h2
      · next h => rw [if_neg h]; exact ⟨by simp [unpackS], Classical.byContradiction fun hn => h (.inr (.inl hn))⟩
    refine pos (by rw [hr.1]; omega) ?_
    rw [Bits.many_int n (by omega) (by omega), ← hr.2]
    refine Ev.congr (f := fun k => busbarlaw05_BitsBack.j0 k l true (packS l) l true false) (fun k => ?_) hend
    simp
  · exact neg h2 hend

theorem bytes_of {b : List Int} (h : ∀ x ∈ b, (Lit.int .u8 x).wf = true) : isBytes b := by
  intro x hx
  have := h x hx
  simp only [Lit.wf, IntKind.min, IntKind.max, IntKind.signed, IntKind.bits, Bool.and_eq_true, decide_eq_true_eq] at this
  simp at this
  omega

theorem tells (l : List Bool) (b : List Int) (n : Int) (hb : isBytes b) (h0 : -9223372036854775808 ≤ n) (h1 : n < 9223372036854775808) : ∃ k, busbarlaw05_BitsTells.f k l b n = some true := by
  refine Ev.rounds (g := fun k => busbarlaw05_BitsTells.f k l b n) ?_
  unfold busbarlaw05_BitsTells.f
  refine Ev.bind awake ?_
  have hend : Ev (fun k => busbarlaw05_BitsTells.j0 k l b n true true) true := Ev.step (f := fun _ => some true) (fun k => by simp only [busbarlaw05_BitsTells.j0]; rfl) (Ev.now _)
  by_cases hl : (l.length : Int) > 300
  · exact pos hl hend
  refine neg hl ?_
  by_cases hl2 : (b.length : Int) > 300
  · rw [decide_eq_true hl2]; exact hend
  rw [decide_eq_false hl2]
  have u1 := unpack_ev b n hb (by omega) h0 h1
  have u2 := R05.unpack_ev b n hb (by omega) h1
  have m1 := Bits.many_int n h0 h1
  have m2 := R05.many_int n h0 h1
  have p1 := pack_ev l (by omega)
  have p2 := R05.pack_ev l (by omega)
  refine Ev.step (fun k => by simp only [busbarlaw05_BitsTells.j0]; rw [if_neg (show ¬ (false = true) by simp)]) ?_
  refine Ev.bind u1 (Ev.bind u2 (pos trivial ?_))
  rw [m1, m2]
  simp only [Option.bind_some]
  refine pos trivial (Ev.bind p1 (Ev.bind p2 ?_))
  rw [R01.same_eq (packS_bytes l) (packS_bytes l)]
  simp only [Option.bind_some, beq_self_eq_true]
  refine pos trivial (pos trivial ?_)
  have hlen : (unpackR b n).1.length ≤ 9223372036854775000 := by
    unfold unpackR
    split
    · simp
    · next h =>
      have : b.length = bytesN n.toNat := Classical.byContradiction fun hn => h (.inr (.inl hn))
      simp only [unpackS, List.length_map, List.length_range]
      unfold bytesN at this
      omega
  refine Ev.bind (R01.bools_ev _ _ hlen) (ret (by simp))

/-! One bit that is another one -/
theorem byteN_set (l : List Bool) (k j : Nat) (hk : k < l.length) : (byteN l j = byteN (l.set k (!l.getD k false)) j) ↔ j ≠ k / 8 := by
  have hget : ∀ p, (l.set k (!l.getD k false)).getD p false = if p = k then !l.getD k false else l.getD p false := by
    intro p
    simp only [List.getD_eq_getElem?_getD, List.getElem?_set]
    by_cases h : k = p
    · subst h; simp [hk]
    · rw [if_neg h, if_neg (fun e => h e.symm)]
  constructor
  · intro h hj
    have h1 := byteN_bit l j (k % 8) (by omega)
    have h2 := byteN_bit (l.set k (!l.getD k false)) j (k % 8) (by omega)
    rw [← h, h1, hget, if_pos (by omega), show 8 * j + k % 8 = k by omega] at h2
    revert h2
    cases l.getD k false <;> simp
  · intro hj
    unfold byteN
    simp only [hget]
    rw [if_neg (show ¬ 8 * j = k by omega), if_neg (show ¬ 8 * j + 1 = k by omega), if_neg (show ¬ 8 * j + 2 = k by omega), if_neg (show ¬ 8 * j + 3 = k by omega), if_neg (show ¬ 8 * j + 4 = k by omega), if_neg (show ¬ 8 * j + 5 = k by omega), if_neg (show ¬ 8 * j + 6 = k by omega), if_neg (show ¬ 8 * j + 7 = k by omega)]
theorem rd_packS (l : List Bool) (i : Nat) : rd (packS l) (i : Int) = (byteN l i : Int) := by unfold rd; rw [Int.toNat_natCast, packS_get]
theorem or_128 : ∀ a : Fin 256, Go.bits .or .u8 (a.val : Int) 128 = ((a.val % 128 + 128 : Nat) : Int) := by decide +kernel

theorem one_end (l : List Bool) (h8 : l.length % 8 ≠ 0) (hl : l.length ≤ 300) : (unpackR ((packS l).set (bytesN l.length - 1) (((byteN l (bytesN l.length - 1)) % 128 + 128 : Nat) : Int)) l.length).2 = false := by
  unfold unpackR
  rw [if_pos]
  refine .inr (.inr ?_)
  rw [Int.toNat_natCast, ← Bool.not_eq_true]
  intro ht
  unfold tail0 at ht
  rw [List.all_eq_true] at ht
  have hb1 : bytesN l.length = l.length / 8 + 1 := by unfold bytesN; omega
  have hlen : ((packS l).set (bytesN l.length - 1) (((byteN l (bytesN l.length - 1)) % 128 + 128 : Nat) : Int)).length = bytesN l.length := by rw [List.length_set, packS_length]
  have := ht (8 * (bytesN l.length - 1) + 7) (List.mem_range.2 (by rw [hlen]; omega))
  rw [decide_eq_false (show ¬ 8 * (bytesN l.length - 1) + 7 < l.length by omega), Bool.false_or] at this
  have hbit : bitAt ((packS l).set (bytesN l.length - 1) (((byteN l (bytesN l.length - 1)) % 128 + 128 : Nat) : Int)) (8 * (bytesN l.length - 1) + 7) = true := by
    unfold bitAt
    rw [show (8 * (bytesN l.length - 1) + 7) / 8 = bytesN l.length - 1 by omega, show (8 * (bytesN l.length - 1) + 7) % 8 = 7 by omega, List.getD_eq_getElem?_getD, List.getElem?_set_self (by rw [packS_length]; omega)]
    simp only [Option.getD_some, Int.toNat_natCast, beq_iff_eq]
    omega
  rw [hbit] at this
  cases this
theorem one_loop (l : List Bool) (q : Nat) (hq : q < l.length) (hl : l.length ≤ 300) (d : Nat) : ∀ i, i + d = bytesN l.length →
    Ev (fun k => busbarlaw05_BitsOne.l0 k l true (q : Int) (packS l) (packS (l.set q (!l.getD q false))) (i : Int)) true := by
  have hb1 : bytesN l.length ≤ 38 := by unfold bytesN; omega
  have hlen2 : (packS (l.set q (!l.getD q false))).length = bytesN l.length := by rw [packS_length, List.length_set]
  induction d with
  | zero =>
    intro i hi
    obtain rfl : i = bytesN l.length := by omega
    have c : ¬ (bytesN l.length : Int) < ((packS l).length : Int) := by rw [packS_length]; omega
    by_cases h8 : (l.length : Int) % 8 = 0
    · exact Ev.step (fun k => by simp only [busbarlaw05_BitsOne.l0]; rw [if_neg c, if_pos h8]) (Ev.now _)
    · have hpos : 0 < bytesN l.length := by unfold bytesN; omega
      have c1 : ((packS l).length : Int) - 1 = ((bytesN l.length - 1 : Nat) : Int) := by rw [packS_length]; omega
      have e1 : -9223372036854775808 ≤ ((bytesN l.length - 1 : Nat) : Int) := by omega
      have e2 : ((bytesN l.length - 1 : Nat) : Int) < 9223372036854775808 := by omega
      have c2 : (0 : Int) ≤ ((bytesN l.length - 1 : Nat) : Int) := by omega
      have c3 : ((bytesN l.length - 1 : Nat) : Int) < ((packS l).length : Int) := by rw [packS_length]; omega
      have hor := or_128 ⟨byteN l (bytesN l.length - 1), byteN_lt _ _⟩
      refine Ev.step (fun k => by simp only [busbarlaw05_BitsOne.l0]; rw [if_neg c, if_neg h8, c1, wrap64_id e1 e2, if_pos c2, if_pos c3, rd_packS, hor, Int.toNat_natCast]) ?_
      refine Ev.bind (f := fun _ bt => if True then some (!bt.2) else some false) (unpack_ev _ (l.length : Int) ?_ ?_ (by omega) (by omega)) ?_
      · intro x hx
        rcases List.mem_or_eq_of_mem_set hx with h | rfl
        · exact packS_bytes l x h
        · have := byteN_lt l (bytesN l.length - 1); omega
      · rw [List.length_set, packS_length]; omega
      · rw [one_end l (by omega) hl]
        exact pos trivial (Ev.now _)
  | succ d ih =>
    intro i hi
    have c : (i : Int) < ((packS l).length : Int) := by rw [packS_length]; omega
    have c1 : (0 : Int) ≤ (i : Int) := by omega
    have c2 : (i : Int) < ((packS (l.set q (!l.getD q false))).length : Int) := by rw [hlen2]; omega
    have c3 : (0 : Int) ≤ (q : Int) := by omega
    have d1 : (q : Int) / 8 = ((q / 8 : Nat) : Int) := by omega
    have e1 : -9223372036854775808 ≤ ((q / 8 : Nat) : Int) := by omega
    have e2 : ((q / 8 : Nat) : Int) < 9223372036854775808 := by omega
    have d3 : (i : Int) + 1 = ((i + 1 : Nat) : Int) := by omega
    have e3 : ((i + 1 : Nat) : Int) < 9223372036854775808 := by omega
    have e4 : -9223372036854775808 ≤ ((i + 1 : Nat) : Int) := by omega
    have hs := byteN_set l q i hq
    have hne : ¬ ((((byteN l i : Int) == (byteN (l.set q (!l.getD q false)) i : Int)) == ((i : Int) == ((q / 8 : Nat) : Int))) = true) := by
      by_cases hj : i = q / 8
      · have : ¬ byteN l i = byteN (l.set q (!l.getD q false)) i := fun h => hs.1 h hj
        have h1 : ((byteN l i : Int) == (byteN (l.set q (!l.getD q false)) i : Int)) = false := by rw [beq_eq_false_iff_ne]; omega
        have h2 : ((i : Int) == ((q / 8 : Nat) : Int)) = true := by rw [beq_iff_eq]; omega
        rw [h1, h2]; simp
      · have h3 := hs.2 hj
        have h1 : ((byteN l i : Int) == (byteN (l.set q (!l.getD q false)) i : Int)) = true := by rw [beq_iff_eq]; omega
        have h2 : ((i : Int) == ((q / 8 : Nat) : Int)) = false := by rw [beq_eq_false_iff_ne]; omega
        rw [h1, h2]; simp
    refine Ev.step (fun k => by simp only [busbarlaw05_BitsOne.l0]; rw [if_pos c, if_pos c1, if_pos c2, rd_packS, rd_packS, tdiv_id c3, d1, wrap64_id e1 e2, if_neg hne, d3, wrap64_id e4 e3]) (ih (i + 1) (by omega))
theorem one (l : List Bool) (n : Int) (h0 : 0 ≤ n) (h1 : n < 65536) : ∃ k, busbarlaw05_BitsOne.f k l n = some true := by
  refine Ev.rounds (g := fun k => busbarlaw05_BitsOne.f k l n) ?_
  unfold busbarlaw05_BitsOne.f
  refine Ev.bind awake ?_
  have hend : Ev (fun k => busbarlaw05_BitsOne.j0 k l n true true) true := Ev.step (f := fun _ => some true) (fun k => by simp only [busbarlaw05_BitsOne.j0]; rfl) (Ev.now _)
  by_cases hl : (l.length : Int) > 300
  · exact pos hl hend
  refine neg hl ?_
  by_cases hz : l.length = 0
  · have : ((l.length : Int) == 0) = true := by rw [hz]; rfl
    rw [this]; exact hend
  have hz2 : ((l.length : Int) == 0) = false := by rw [beq_eq_false_iff_ne]; omega
  rw [hz2]
  have hz3 : ¬ (l.length : Int) = 0 := by omega
  have hlen : l.length ≤ 300 := by omega
  obtain ⟨m, rfl⟩ := Int.eq_ofNat_of_zero_le h0
  have c0 : (0 : Int) ≤ ((m : Nat) : Int) := by omega
  have hq : m % l.length < l.length := Nat.mod_lt _ (by omega)
  have e1 : -9223372036854775808 ≤ ((m : Nat) : Int) := by omega
  have e2 : ((m : Nat) : Int) < 9223372036854775808 := by omega
  have d1 : ((m : Nat) : Int) % (l.length : Int) = ((m % l.length : Nat) : Int) := by omega
  have c1 : (0 : Int) ≤ ((m % l.length : Nat) : Int) := by omega
  have c2 : ((m % l.length : Nat) : Int) < (l.length : Int) := by omega
  have hs1 : ([] : List Bool).length + l.length < 140737488355328 := by simp; omega
  have d5 : wrap64 (Int.tdiv (wrap64 ((l.length : Int) + 7)) 8) = ((bytesN l.length : Nat) : Int) := by
    rw [wrap64_id (x := (l.length : Int) + 7) (by omega) (by omega), tdiv_id (by omega), wrap64_id (by omega) (by omega)]; unfold bytesN; omega
  refine Ev.step (fun k => by simp only [busbarlaw05_BitsOne.j0]; rw [if_neg (show ¬ (false = true) by simp), if_neg hz3, wrap64_id e1 e2, tmod_id c0, d1]) ?_
  refine Ev.bind (pack_ev l (by omega)) ?_
  simp only [Option.bind_some, List.nil_append]
  refine pos hs1 (pos c1 (pos c2 ?_))
  have hrd : rdOf false l ((m % l.length : Nat) : Int) = l.getD (m % l.length) false := by simp only [rdOf, Int.toNat_natCast]
  rw [Int.toNat_natCast, hrd]
  refine Ev.bind (pack_ev _ (by rw [List.length_set]; omega)) ?_
  have hL : ((packS l).length : Int) = ((bytesN l.length : Nat) : Int) := by rw [packS_length]
  have hL2 : (((packS (l.set (m % l.length) (!l.getD (m % l.length) false))).length : Int) != ((packS l).length : Int)) = false := by rw [packS_length, packS_length, List.length_set]; simp
  refine pos (by rw [d5]; exact hL) ?_
  rw [hL2]
  refine Ev.step (fun k => by simp only [busbarlaw05_BitsOne.j1]; rw [if_neg (show ¬ (false = true) by simp)]) ?_
  exact one_loop l (m % l.length) hq hlen (bytesN l.length) 0 (by omega)

/-! Bits behind eights -/
theorem byteN_left (x y : List Bool) (q : Nat) (hx : x.length = 8 * q) (j : Nat) (hj : j < q) : byteN (x ++ y) j = byteN x j := by
  have hg : ∀ p, p < 8 * q → (x ++ y).getD p false = x.getD p false := fun p hp => by simp only [List.getD_eq_getElem?_getD]; rw [List.getElem?_append_left (by omega)]
  unfold byteN
  rw [hg _ (by omega), hg _ (by omega), hg _ (by omega), hg _ (by omega), hg _ (by omega), hg _ (by omega), hg _ (by omega), hg _ (by omega)]
theorem byteN_right (x y : List Bool) (q : Nat) (hx : x.length = 8 * q) (j : Nat) : byteN (x ++ y) (q + j) = byteN y j := by
  have hg : ∀ p, (x ++ y).getD (8 * q + p) false = y.getD p false := fun p => by simp only [List.getD_eq_getElem?_getD]; rw [List.getElem?_append_right (by omega), hx, Nat.add_sub_cancel_left]
  unfold byteN
  rw [show 8 * (q + j) = 8 * q + 8 * j by omega, hg, show 8 * q + 8 * j + 1 = 8 * q + (8 * j + 1) by omega, hg, show 8 * q + 8 * j + 2 = 8 * q + (8 * j + 2) by omega, hg, show 8 * q + 8 * j + 3 = 8 * q + (8 * j + 3) by omega, hg,
    show 8 * q + 8 * j + 4 = 8 * q + (8 * j + 4) by omega, hg, show 8 * q + 8 * j + 5 = 8 * q + (8 * j + 5) by omega, hg, show 8 * q + 8 * j + 6 = 8 * q + (8 * j + 6) by omega, hg, show 8 * q + 8 * j + 7 = 8 * q + (8 * j + 7) by omega, hg]
theorem packS_append (x y : List Bool) (q : Nat) (hx : x.length = 8 * q) : packS (x ++ y) = packS x ++ packS y := by
  have hb : bytesN (x ++ y).length = q + bytesN y.length := by rw [List.length_append]; unfold bytesN; omega
  have hbx : bytesN x.length = q := by unfold bytesN; omega
  unfold packS
  rw [hb, hbx, List.range_add, List.map_append, List.map_map]
  congr 1
  · exact List.map_congr_left fun j hj => by rw [byteN_left x y q hx j (List.mem_range.1 hj)]
  · exact List.map_congr_left fun j _ => by simp only [Function.comp]; rw [byteN_right x y q hx j]
theorem joins (a b : List Bool) : ∃ k, busbarlaw05_BitsJoins.f k a b = some true := by
  refine Ev.rounds (g := fun k => busbarlaw05_BitsJoins.f k a b) ?_
  unfold busbarlaw05_BitsJoins.f
  refine Ev.bind awake ?_
  have hend : Ev (fun k => busbarlaw05_BitsJoins.j0 k a b true true) true := Ev.step (f := fun _ => some true) (fun k => by simp only [busbarlaw05_BitsJoins.j0]; rfl) (Ev.now _)
  by_cases hl : (a.length : Int) > 300
  · exact pos hl hend
  refine neg hl ?_
  by_cases hl2 : (b.length : Int) > 300
  · rw [decide_eq_true hl2]; exact hend
  rw [decide_eq_false hl2]
  have hd : wrap64 (wrap64 ((a.length : Int) / 8) * 8) = ((8 * (a.length / 8) : Nat) : Int) := by rw [wrap64_id (x := (a.length : Int) / 8) (by omega) (by omega), wrap64_id (by omega) (by omega)]; omega
  have hx : (a.take (8 * (a.length / 8))).length = 8 * (a.length / 8) := by rw [List.length_take]; omega
  have c1 : (0 : Int) ≤ ((8 * (a.length / 8) : Nat) : Int) := by omega
  have c2 : ((8 * (a.length / 8) : Nat) : Int) ≤ (a.length : Int) := by omega
  refine Ev.step (fun k => by simp only [busbarlaw05_BitsJoins.j0]; rw [if_neg (show ¬ (false = true) by simp), hd, if_pos c1, if_pos c2, Int.toNat_natCast]) ?_
  generalize a.take (8 * (a.length / 8)) = x at hx ⊢
  have hxl : x.length ≤ 300 := by omega
  have hbl : b.length ≤ 300 := by omega
  simp only [Option.bind_some, List.nil_append, if_true]
  have n1 : ([] : List Bool).length + x.length < 140737488355328 := by simp; omega
  have n2 : x.length + b.length < 140737488355328 := by omega
  refine pos n1 (pos n2 ?_)
  refine Ev.bind (pack_ev (x ++ b) (by rw [List.length_append]; omega)) (Ev.bind (pack_ev x (by omega)) ?_)
  have l1 : (packS x).length ≤ 38 := by rw [packS_length]; unfold bytesN; omega
  have l2 : (packS b).length ≤ 38 := by rw [packS_length]; unfold bytesN; omega
  have n3 : ([] : List Int).length + (packS x).length < 140737488355328 := by simp; omega
  refine pos n3 (Ev.bind (pack_ev b (by omega)) ?_)
  refine pos (by omega) ?_
  rw [R01.same_eq (packS_bytes _) (isBytes_append (packS_bytes _) (packS_bytes _)), packS_append x b _ hx]
  simp only [Option.bind_some, beq_self_eq_true, if_true]
  refine Ev.bind (pack_ev x (by omega)) (ret ?_)
  rw [wrap64_id (by omega) (by omega), packS_length, beq_iff_eq]
  unfold bytesN; omega
/-! As the rows ask for them -/
theorem i64_of {n : Int} (h : (Lit.int .i64 n).wf = true) : -9223372036854775808 ≤ n ∧ n < 9223372036854775808 := by
  simp only [Lit.wf, IntKind.min, IntKind.max, IntKind.signed, IntKind.bits, Bool.and_eq_true, decide_eq_true_eq] at h
  simp at h
  omega
theorem u16_of {n : Int} (h : (Lit.int .u16 n).wf = true) : 0 ≤ n ∧ n < 65536 := by
  simp only [Lit.wf, IntKind.min, IntKind.max, IntKind.signed, IntKind.bits, Bool.and_eq_true, decide_eq_true_eq] at h
  simp at h
  omega
theorem tellsL (l : List Bool) (b : List Int) (n : Int) {p q : Prop} {g : Bool → Prop} (_ : p) (_ : ∀ x ∈ l, g x) (_ : q) (hb : ∀ x ∈ b, (Lit.int .u8 x).wf = true) (hn : (Lit.int .i64 n).wf = true) : ∃ k, busbarlaw05_BitsTells.f k l b n = some true :=
  tells l b n (bytes_of hb) (i64_of hn).1 (i64_of hn).2
theorem backL (l : List Bool) (n : Int) {p : Prop} {g : Bool → Prop} (_ : p) (_ : ∀ x ∈ l, g x) (hn : (Lit.int .u16 n).wf = true) : ∃ k, busbarlaw05_BitsBack.f k l n = some true := back l n (u16_of hn).1 (u16_of hn).2
theorem oneL (l : List Bool) (n : Int) {p : Prop} {g : Bool → Prop} (_ : p) (_ : ∀ x ∈ l, g x) (hn : (Lit.int .u16 n).wf = true) : ∃ k, busbarlaw05_BitsOne.f k l n = some true := one l n (u16_of hn).1 (u16_of hn).2
theorem joinsL (a b : List Bool) {p q : Prop} {g g2 : Bool → Prop} (_ : p) (_ : ∀ x ∈ a, g x) (_ : q) (_ : ∀ x ∈ b, g2 x) : ∃ k, busbarlaw05_BitsJoins.f k a b = some true := joins a b
end Go.Proofs.Ytpjapdkefjbimaa.Pure
