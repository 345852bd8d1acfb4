/- When two lists are one: the reference's Same, Bools. -/
import Derived.Test.YtbilolgiihegiaaEv
import Derived.Test.YtbilolgiihegiaaPx23
import Derived.Test.YtbilolgiihegiaaPx22
import Derived.Test.YtbilolgiihegiaaPx21
set_option linter.unusedVariables false
set_option linter.unusedSimpArgs false
namespace Go.Proofs.Ytbilolgiihegiaa.R01
open Go.RowKit Go.Proofs.Ytbilolgiihegiaa.P Go.Proofs.Ytbilolgiihegiaa.E Go.Proofs.YtbilolgiihegiaaW.PrintWords Go.Proofs.YtbilolgiihegiaaW.PrintLast Go.Proofs.YtbilolgiihegiaaW.PrintMore
theorem same_eq {l m : List Int} (hl : isBytes l) (hm : isBytes m) : busbarref01_Same.f l m = some (l == m) := by unfold busbarref01_Same.f; rw [str_beq hl hm]
theorem bools_loop (l m : List Bool) (hl : (l.length : Int) ≤ 9223372036854775807) (he : l.length = m.length) (d : Nat) : ∀ k i, i ≤ l.length → l.length - i = d → d < k → busbarref01_Bools.l0 k l m i = some (l.drop i == m.drop i) := by
  induction d with
  | zero =>
    intro k i h1 h2 hk
    obtain ⟨k, rfl⟩ : ∃ m, k = m + 1 := ⟨k - 1, by omega⟩
    have c : ¬ (i : Int) < (l.length : Int) := by omega
    simp only [busbarref01_Bools.l0]
    rw [if_neg c, List.drop_eq_nil_of_le (by omega), List.drop_eq_nil_of_le (by omega)]; rfl
  | succ d ih =>
    intro k i h1 h2 hk
    obtain ⟨k, rfl⟩ : ∃ m, k = m + 1 := ⟨k - 1, by omega⟩
    have c1 : (i : Int) < (l.length : Int) := by omega
    have c2 : (0 : Int) ≤ (i : Int) := by omega
    have c3 : (i : Int) < (m.length : Int) := by omega
    have d3 : (i : Int) + 1 = ((i + 1 : Nat) : Int) := by omega
    have e3 : ((i + 1 : Nat) : Int) < 9223372036854775808 := by omega
    have e4 : -9223372036854775808 ≤ ((i + 1 : Nat) : Int) := by omega
    have hn := ih k (i + 1) (by omega) (by omega) (by omega)
    rw [drop_cons (show i < l.length by omega) false, drop_cons (show i < m.length by omega) false]
    simp only [busbarref01_Bools.l0]
    rw [if_pos c1, if_pos c2, if_pos c3, d3, wrap64_id e4 e3, hn]
    have hr : ∀ x : List Bool, rdOf false x (i : Int) = x.getD i false := fun x => by simp [rdOf]
    rw [hr, hr, List.cons_beq_cons]
    generalize l.getD i false = x
    generalize m.getD i false = y
    cases x <;> cases y <;> simp
theorem bools_ev (l m : List Bool) (hl : l.length ≤ 9223372036854775807) : Ev (fun k => busbarref01_Bools.f k l m) (l == m) := by
  refine Ev.of (busbarref01_Bools.mono l m) (k := l.length + 1) ?_
  unfold busbarref01_Bools.f
  by_cases he : l.length = m.length
  · have h := bools_loop l m (by omega) he l.length (l.length + 1) 0 (by omega) (by omega) (by omega)
    rw [Int.natCast_zero] at h
    rw [if_pos (by rw [he]), h]; rfl
  · rw [if_neg (fun h => he (by omega))]
    congr 1
    symm
    rw [beq_eq_false_iff_ne]
    exact fun h => he (by rw [h])
theorem words_loop (l m : List Int) (hl : (l.length : Int) ≤ 9223372036854775807) (he : l.length = m.length) (d : Nat) : ∀ k i, i ≤ l.length → l.length - i = d → d < k → busbarref01_Words.l0 k l m i = some (l.drop i == m.drop i) := by
  induction d with
  | zero =>
    intro k i h1 h2 hk
    obtain ⟨k, rfl⟩ : ∃ m, k = m + 1 := ⟨k - 1, by omega⟩
    have c : ¬ (i : Int) < (l.length : Int) := by omega
    simp only [busbarref01_Words.l0]
    rw [if_neg c, List.drop_eq_nil_of_le (by omega), List.drop_eq_nil_of_le (by omega)]; rfl
  | succ d ih =>
    intro k i h1 h2 hk
    obtain ⟨k, rfl⟩ : ∃ m, k = m + 1 := ⟨k - 1, by omega⟩
    have c1 : (i : Int) < (l.length : Int) := by omega
    have c2 : (0 : Int) ≤ (i : Int) := by omega
    have c3 : (i : Int) < (m.length : Int) := by omega
    have d3 : (i : Int) + 1 = ((i + 1 : Nat) : Int) := by omega
    have e3 : ((i + 1 : Nat) : Int) < 9223372036854775808 := by omega
    have e4 : -9223372036854775808 ≤ ((i + 1 : Nat) : Int) := by omega
    have hn := ih k (i + 1) (by omega) (by omega) (by omega)
    rw [drop_cons (show i < l.length by omega) 0, drop_cons (show i < m.length by omega) 0]
    simp only [busbarref01_Words.l0]
    rw [if_pos c1, if_pos c2, if_pos c3, d3, wrap64_id e4 e3, hn]
    have hr : ∀ x : List Int, rd x (i : Int) = x.getD i 0 := fun x => by simp [rd]
    rw [hr, hr, List.cons_beq_cons]
    generalize l.getD i 0 = x
    generalize m.getD i 0 = y
    by_cases h : x = y
    · subst h; simp
    · simp [h]
theorem words_ev (l m : List Int) (hl : l.length ≤ 9223372036854775807) : Ev (fun k => busbarref01_Words.f k l m) (l == m) := by
  refine Ev.of (busbarref01_Words.mono l m) (k := l.length + 1) ?_
  unfold busbarref01_Words.f
  by_cases he : l.length = m.length
  · have h := words_loop l m (by omega) he l.length (l.length + 1) 0 (by omega) (by omega) (by omega)
    rw [Int.natCast_zero] at h
    rw [if_pos (by rw [he]), h]; rfl
  · rw [if_neg (fun h => he (by omega))]
    congr 1
    symm
    rw [beq_eq_false_iff_ne]
    exact fun h => he (by rw [h])
theorem same_c {l m : List Int} (hl : isBytes l) (hm : isBytes m) {A B : Option Addr} {c d : Nat} {W : World} (rl : Kd.C (Kd.int .u8) W A l.length l) (zl : l.length ≤ c) (rm : Kd.C (Kd.int .u8) W B m.length m) (zm : m.length ≤ d) :
    Calls Try.prog 15 #[.slice A l.length c, .slice B m.length d] W fun e w' => e = .returned (.bool (l == m)) ∧ Below W.heap.size W w' := by
  refine (busbarref01_Same.calls A c l B d m _ W rl zl rm zm (same_eq hl hm)).mono ?_
  rintro e w' ⟨rfl, n, rfl⟩
  exact ⟨rfl, pw_below_drewN (Below.refl _ _) _⟩
theorem words_c {l m : List Int} (hl : l.length ≤ 9223372036854775807) {A B : Option Addr} {c d : Nat} {W : World} (rl : Kd.C (Kd.int .u16) W A l.length l) (zl : l.length ≤ c) (rm : Kd.C (Kd.int .u16) W B m.length m) (zm : m.length ≤ d) :
    Calls Try.prog 21 #[.slice A l.length c, .slice B m.length d] W fun e w' => e = .returned (.bool (l == m)) ∧ Below W.heap.size W w' := by
  obtain ⟨k, hk⟩ := (words_ev l m hl).rounds
  refine (busbarref01_Words.calls k A c l B d m _ W rl zl rm zm hk).mono ?_
  rintro e w' ⟨rfl, n, rfl⟩
  exact ⟨rfl, pw_below_drewN (Below.refl _ _) _⟩
end Go.Proofs.Ytbilolgiihegiaa.R01
