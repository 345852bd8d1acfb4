/- The laws of codes, over what the functions compute. -/
import Derived.Test.YtoompkobcohehaaEv
import Derived.Test.YtoompkobcohehaaPx21
import Derived.Test.YtoompkobcohehaaPx22
import Derived.Test.YtoompkobcohehaaPx29
set_option linter.unusedVariables false
set_option linter.unusedSimpArgs false
namespace Go.Proofs.Ytoompkobcohehaa.Pure
open Go.RowKit Go.Proofs.Ytoompkobcohehaa.P Go.Proofs.Ytoompkobcohehaa.E Go.Proofs.YtoompkobcohehaaW.PrintWords Go.Proofs.YtoompkobcohehaaW.PrintLast Go.Proofs.YtoompkobcohehaaW.PrintMore
theorem u8_of {n : Int} (h : (Lit.int .u8 n).wf = true) : 0 ≤ n ∧ n < 256 := by
  simp only [Lit.wf, IntKind.min, IntKind.max, IntKind.signed, IntKind.bits, Bool.and_eq_true, decide_eq_true_eq] at h
  simp at h
  omega
theorem u16_of {n : Int} (h : (Lit.int .u16 n).wf = true) : 0 ≤ n ∧ n < 65536 := by
  simp only [Lit.wf, IntKind.min, IntKind.max, IntKind.signed, IntKind.bits, Bool.and_eq_true, decide_eq_true_eq] at h
  simp at h
  omega
theorem awake : busbarlaw07_awake.f = some true := by decide +kernel
theorem pub_fin : ∀ a : Fin 256, code_Public.f (a.val : Int) = busbarref07_Public.f (a.val : Int) ∧ (code_Public.f (a.val : Int)).isSome = true ∧ (a.val ≥ 128 → code_Public.f (a.val : Int) = some false) := by decide +kernel
theorem fail_fin : ∀ a : Fin 256, code_Failure.f (a.val : Int) = busbarref07_Failure.f (a.val : Int) ∧ (code_Failure.f (a.val : Int)).isSome = true ∧ (code_Failure.f (a.val : Int) = some true → a.val > 0 ∧ a.val < 12) := by decide +kernel
theorem not_fin : ∀ a : Fin 256, Go.bits .andNot .u8 (a.val : Int) 128 = ((a.val % 128 : Nat) : Int) := by decide +kernel
theorem many_fin : ∀ a : Fin 256, busbarlaw07_CodeMany.f (a.val : Int) = some true := by decide +kernel
theorem byte {n : Int} (h : (Lit.int .u8 n).wf = true) : ∃ a : Fin 256, n = (a.val : Int) := by
  obtain ⟨h0, h1⟩ := u8_of h
  exact ⟨⟨n.toNat, by omega⟩, by simp; omega⟩
theorem many (a : Int) (h : (Lit.int .u8 a).wf = true) : busbarlaw07_CodeMany.f a = some true := by
  obtain ⟨x, rfl⟩ := byte h
  exact many_fin x
theorem andnot {d : Int} (h : (Lit.int .u8 d).wf = true) : Go.bits .andNot .u8 d 128 = d % 128 := by
  obtain ⟨x, rfl⟩ := byte h
  rw [not_fin]; omega
theorem ans (c d : Int) (hc : (Lit.int .u8 c).wf = true) (hd : (Lit.int .u8 d).wf = true) : code_Answers.f c d = some (decide (c < 128 ∧ (d = c ∨ d = c + 128))) := by
  obtain ⟨h0, h1⟩ := u8_of hc
  obtain ⟨h2, h3⟩ := u8_of hd
  unfold code_Answers.f
  by_cases h : c < 128
  · rw [if_pos h, andnot hd]
    congr 1
    rw [Bool.eq_iff_iff, beq_iff_eq, decide_eq_true_eq]
    omega
  · rw [if_neg h, decide_eq_false (fun hh => h hh.1)]
theorem ansR (c d : Int) (hc : (Lit.int .u8 c).wf = true) (hd : (Lit.int .u8 d).wf = true) : busbarref07_Answers.f c d = some (decide (c < 128 ∧ (d = c ∨ d = c + 128))) := by
  obtain ⟨h0, h1⟩ := u8_of hc
  obtain ⟨h2, h3⟩ := u8_of hd
  unfold busbarref07_Answers.f
  by_cases h : c ≥ 128
  · rw [if_pos h, decide_eq_false (fun hh => by omega)]
  · rw [if_neg h]
    by_cases h4 : d = c
    · rw [if_pos h4, decide_eq_true ⟨by omega, .inl h4⟩]
    · rw [if_neg h4]
      congr 1
      rw [Bool.eq_iff_iff, beq_iff_eq, decide_eq_true_eq]
      omega
theorem sub_eq (s : Int) (h : (Lit.int .u16 s).wf = true) : code_Bits.f s = busbarref07_Sub.f s ∧ ∃ b, code_Bits.f s = some b := by
  obtain ⟨h0, h1⟩ := u16_of h
  have e : code_Bits.f s = some (Go.Proofs.Ytoompkobcohehaa.Code.bitsubL.contains s) := by unfold code_Bits.f; rw [if_pos h]
  refine ⟨?_, _, e⟩
  rw [e]
  have hc : Go.Proofs.Ytoompkobcohehaa.Code.bitsubL.contains s = decide (s ≤ 4 ∨ (10 ≤ s ∧ s ≤ 18) ∨ s = 20) := by
    rw [Bool.eq_iff_iff, decide_eq_true_eq]
    simp only [Go.Proofs.Ytoompkobcohehaa.Code.bitsubL, List.contains_cons, List.contains_nil, Bool.or_eq_true, beq_iff_eq, Bool.or_false]
    omega
  rw [hc]
  unfold busbarref07_Sub.f
  by_cases a : s ≤ 4
  · rw [if_pos a, decide_eq_true (.inl a)]
  · rw [if_neg a]
    by_cases b : s ≥ 10
    · rw [if_pos b]
      by_cases c : s ≤ 18
      · rw [if_pos c, decide_eq_true (.inr (.inl ⟨b, c⟩))]
      · rw [if_neg c]
        congr 1
        rw [Bool.eq_iff_iff, beq_iff_eq, decide_eq_true_eq]; omega
    · rw [if_neg b]
      congr 1
      rw [Bool.eq_iff_iff, beq_iff_eq, decide_eq_true_eq]; omega
theorem tells (c d s : Int) (hc : (Lit.int .u8 c).wf = true) (hd : (Lit.int .u8 d).wf = true) (hs : (Lit.int .u16 s).wf = true) : busbarlaw07_CodeTells.f c d s = some true := by
  unfold busbarlaw07_CodeTells.f
  obtain ⟨s1, b, s2⟩ := sub_eq s hs
  rw [awake, ans c d hc hd, ansR c d hc hd, ← s1, s2]
  obtain ⟨x, rfl⟩ := byte hc
  obtain ⟨p1, p2, _⟩ := pub_fin x
  obtain ⟨f1, f2, _⟩ := fail_fin x
  rw [← p1, ← f1]
  obtain ⟨u, hu⟩ := Option.isSome_iff_exists.1 p2
  obtain ⟨v, hv⟩ := Option.isSome_iff_exists.1 f2
  rw [hu, hv]
  simp [code_Broadcast.f]
theorem u8_wf {n : Int} (h0 : 0 ≤ n) (h1 : n < 256) : (Lit.int .u8 n).wf = true := by
  simp only [Lit.wf, IntKind.min, IntKind.max, IntKind.signed, IntKind.bits, Bool.and_eq_true, decide_eq_true_eq]
  simp
  omega
theorem answers_j (a c : Int) (ha : (Lit.int .u8 a).wf = true) (hc : (Lit.int .u8 c).wf = true) : busbarlaw07_CodeAnswers.j0 1 a c true false = some true := by
  obtain ⟨h0, h1⟩ := u8_of ha
  obtain ⟨h2, h3⟩ := u8_of hc
  simp only [busbarlaw07_CodeAnswers.j0]
  rw [if_neg (show ¬ (false = true) by simp)]
  have hp : ∃ u, code_Public.f a = some u ∧ (a ≥ 128 → u = false) := by
    obtain ⟨x, rfl⟩ := byte ha
    obtain ⟨_, p2, p3⟩ := pub_fin x
    obtain ⟨u, hu⟩ := Option.isSome_iff_exists.1 p2
    refine ⟨u, hu, fun h => ?_⟩
    have := p3 (by omega)
    rw [hu] at this
    exact Option.some.inj this
  obtain ⟨u, hu, hbig⟩ := hp
  rw [hu]
  simp only [Option.bind_some]
  cases u with
  | false => rw [if_neg (by simp)]
  | true =>
    have hlt : a < 128 := by
      by_cases h : a < 128
      · exact h
      · cases hbig (by omega)
    have e : (a + 128) % 256 = a + 128 := by omega
    rw [if_pos trivial, if_pos hlt, e, ans a a ha ha, ans a (a + 128) ha (u8_wf (by omega) (by omega)), ans a c ha hc]
    have q1 : decide (a < 128 ∧ (a = a ∨ a = a + 128)) = true := decide_eq_true ⟨hlt, .inl rfl⟩
    have q2 : decide (a < 128 ∧ (a + 128 = a ∨ a + 128 = a + 128)) = true := decide_eq_true ⟨hlt, .inr rfl⟩
    rw [q1, q2]
    by_cases h : a < 128 ∧ (c = a ∨ c = a + 128)
    · rw [decide_eq_true h]
      simp only [Option.bind_some, if_true]
      by_cases h4 : c = a
      · rw [if_pos h4]
      · rw [if_neg h4]
        congr 1
        rw [beq_iff_eq]; omega
    · rw [decide_eq_false h]; rfl
theorem answers (a b c : Int) (ha : (Lit.int .u8 a).wf = true) (hb : (Lit.int .u8 b).wf = true) (hc : (Lit.int .u8 c).wf = true) : ∃ k, busbarlaw07_CodeAnswers.f k a b c = some true := by
  refine ⟨1, ?_⟩
  unfold busbarlaw07_CodeAnswers.f
  rw [awake, ans a c ha hc, ans b c hb hc]
  obtain ⟨h0, h1⟩ := u8_of ha
  obtain ⟨h2, h3⟩ := u8_of hb
  by_cases h : a < 128 ∧ (c = a ∨ c = a + 128)
  · rw [decide_eq_true h]
    by_cases h2 : b < 128 ∧ (c = b ∨ c = b + 128)
    · rw [decide_eq_true h2]
      have : (a != b) = false := by
        rw [bne_eq_false_iff_eq]; omega
      simp only [Option.bind_some, if_true]
      rw [this]
      exact answers_j a c ha hc
    · rw [decide_eq_false h2]
      exact answers_j a c ha hc
  · rw [decide_eq_false h]
    exact answers_j a c ha hc
end Go.Proofs.Ytoompkobcohehaa.Pure
