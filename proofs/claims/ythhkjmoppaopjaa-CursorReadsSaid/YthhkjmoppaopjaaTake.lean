/- Words out of bytes: what word.Take and its reference compute. Conditions: bytes, not more than a million. -/
import Derived.Test.YthhkjmoppaopjaaEv
import Derived.Test.YthhkjmoppaopjaaPx5
import Derived.Test.YthhkjmoppaopjaaPx23
set_option linter.unusedVariables false
set_option linter.unusedSimpArgs false
namespace Go.Proofs.Ythhkjmoppaopjaa.Take
open Go.RowKit Go.Proofs.Ythhkjmoppaopjaa.P Go.Proofs.Ythhkjmoppaopjaa.E Go.Proofs.YthhkjmoppaopjaaW.PrintWords Go.Proofs.YthhkjmoppaopjaaW.PrintLast Go.Proofs.YthhkjmoppaopjaaW.PrintMore
/-- The word at place j. -/
def wordAt (l : List Int) (j : Nat) : Int := l.getD (2 * j) 0 * 256 + l.getD (2 * j + 1) 0
def pre (l : List Int) (j : Nat) : List Int := (List.range j).map (wordAt l)
theorem pre_succ (l : List Int) (j : Nat) : pre l (j + 1) = pre l j ++ [wordAt l j] := by unfold pre; rw [List.range_succ, List.map_append]; rfl
theorem pre_length (l : List Int) (j : Nat) : (pre l j).length = j := by simp [pre]
/-- The words of bytes: none of an odd number. -/
def words (l : List Int) : List Int := if l.length % 2 = 0 then pre l (l.length / 2) else []
theorem wrap16 {x : Int} (h0 : 0 ≤ x) (h1 : x < 65536) : IntKind.u16.wrap x = x := by simp [IntKind.wrap, IntKind.bits, IntKind.signed]; omega
theorem join (a b : Int) (ha : 0 ≤ a ∧ a < 256) (hb : 0 ≤ b ∧ b < 256) : Go.bits .or .u16 (IntKind.u16.wrap ((IntKind.u16.wrap a) * 256)) (IntKind.u16.wrap b) = a * 256 + b := by
  rw [wrap16 ha.1 (by omega), wrap16 hb.1 (by omega), wrap16 (by omega) (by omega)]
  exact bits_join .u16 16 (by decide) (fun n h0 h1 => by simp [IntKind.wrap, IntKind.bits, IntKind.signed]; omega) 8 (a * 256) b (by omega) (by omega) (by omega) hb.1 (by omega) (by omega)
theorem rd_at (l : List Int) (i : Nat) : rd l (i : Int) = l.getD i 0 := by simp [rd]
theorem loop (l : List Int) (hb : isBytes l) (hl : l.length ≤ 1000000) (he : l.length % 2 = 0) (d : Nat) : ∀ j, j + d = l.length / 2 → Ev (fun k => word_Take.l0 k l (pre l j) ((2 * j : Nat) : Int)) (pre l (l.length / 2)) := by
  induction d with
  | zero =>
    intro j hj
    have c : ¬ ((2 * j : Nat) : Int) < (l.length : Int) := by omega
    refine Ev.step (f := fun _ => some (pre l j)) (fun k => ?_) (ret (by rw [← hj]; rfl))
    simp only [word_Take.l0]
    rw [if_neg c]
  | succ d ih =>
    intro j hj
    have c1 : ((2 * j : Nat) : Int) < (l.length : Int) := by omega
    have c2 : (0 : Int) ≤ ((2 * j : Nat) : Int) := by omega
    have d1 : ((2 * j : Nat) : Int) + 1 = ((2 * j + 1 : Nat) : Int) := by omega
    have d2 : ((2 * j : Nat) : Int) + 2 = ((2 * (j + 1) : Nat) : Int) := by omega
    have e1 : -9223372036854775808 ≤ ((2 * j + 1 : Nat) : Int) := by omega
    have e2 : ((2 * j + 1 : Nat) : Int) < 9223372036854775808 := by omega
    have e3 : -9223372036854775808 ≤ ((2 * (j + 1) : Nat) : Int) := by omega
    have e4 : ((2 * (j + 1) : Nat) : Int) < 9223372036854775808 := by omega
    have c3 : (0 : Int) ≤ ((2 * j + 1 : Nat) : Int) := by omega
    have c4 : ((2 * j + 1 : Nat) : Int) < (l.length : Int) := by omega
    have c5 : (pre l j).length < 70368744177664 := by rw [pre_length]; omega
    refine Ev.step (f := fun k => word_Take.l0 k l (pre l (j + 1)) ((2 * (j + 1) : Nat) : Int)) (fun k => ?_) (ih (j + 1) (by omega))
    simp only [word_Take.l0]
    rw [d1, d2, wrap64_id e1 e2, wrap64_id e3 e4, if_pos c1, if_pos c2, if_pos c3, if_pos c4, if_pos c5, rd_at, rd_at, join _ _ (isBytes_rd hb _) (isBytes_rd hb _), pre_succ]; rfl
theorem take_ev (l : List Int) (hb : isBytes l) (hl : l.length ≤ 1000000) : Ev (fun k => word_Take.f k l) (words l) := by
  unfold word_Take.f words
  by_cases he : l.length % 2 = 0
  · rw [if_pos he]
    exact pos (by omega) (loop l hb hl he (l.length / 2) 0 (by omega))
  · rw [if_neg he]
    exact neg (by omega) (ret rfl)
theorem join2 (a b : Int) (ha : 0 ≤ a ∧ a < 256) (hb : 0 ≤ b ∧ b < 256) : IntKind.u16.wrap ((IntKind.u16.wrap (256 * (IntKind.u16.wrap a))) + (IntKind.u16.wrap b)) = a * 256 + b := by
  rw [wrap16 (x := a) ha.1 (by omega), wrap16 (x := b) hb.1 (by omega), wrap16 (x := 256 * a) (by omega) (by omega), wrap16 (x := 256 * a + b) (by omega) (by omega)]
  omega
theorem ref_loop (l : List Int) (hb : isBytes l) (hl : l.length ≤ 1000000) (he : l.length % 2 = 0) (d : Nat) : ∀ j, j + d = l.length / 2 → Ev (fun k => busbarref04_Take.l0 k l (pre l j) ((2 * j : Nat) : Int)) (pre l (l.length / 2)) := by
  induction d with
  | zero =>
    intro j hj
    have c : ¬ ((2 * j + 1 : Nat) : Int) < (l.length : Int) := by omega
    have d1 : ((2 * j : Nat) : Int) + 1 = ((2 * j + 1 : Nat) : Int) := by omega
    have e1 : -9223372036854775808 ≤ ((2 * j + 1 : Nat) : Int) := by omega
    have e2 : ((2 * j + 1 : Nat) : Int) < 9223372036854775808 := by omega
    refine Ev.step (f := fun _ => some (pre l j)) (fun k => ?_) (ret (by rw [← hj]; rfl))
    simp only [busbarref04_Take.l0]
    rw [d1, wrap64_id e1 e2, if_neg c]
  | succ d ih =>
    intro j hj
    have c1 : ((2 * j : Nat) : Int) < (l.length : Int) := by omega
    have c2 : (0 : Int) ≤ ((2 * j : Nat) : Int) := by omega
    have d1 : ((2 * j : Nat) : Int) + 1 = ((2 * j + 1 : Nat) : Int) := by omega
    have d2 : ((2 * j : Nat) : Int) + 2 = ((2 * (j + 1) : Nat) : Int) := by omega
    have e1 : -9223372036854775808 ≤ ((2 * j + 1 : Nat) : Int) := by omega
    have e2 : ((2 * j + 1 : Nat) : Int) < 9223372036854775808 := by omega
    have e3 : -9223372036854775808 ≤ ((2 * (j + 1) : Nat) : Int) := by omega
    have e4 : ((2 * (j + 1) : Nat) : Int) < 9223372036854775808 := by omega
    have c3 : (0 : Int) ≤ ((2 * j + 1 : Nat) : Int) := by omega
    have c4 : ((2 * j + 1 : Nat) : Int) < (l.length : Int) := by omega
    have c5 : (pre l j).length < 70368744177664 := by rw [pre_length]; omega
    refine Ev.step (f := fun k => busbarref04_Take.l0 k l (pre l (j + 1)) ((2 * (j + 1) : Nat) : Int)) (fun k => ?_) (ih (j + 1) (by omega))
    simp only [busbarref04_Take.l0]
    rw [d1, d2, wrap64_id e1 e2, wrap64_id e3 e4, if_pos c4, if_pos c2, if_pos c1, if_pos c3, if_pos c5, rd_at, rd_at, join2 _ _ (isBytes_rd hb _) (isBytes_rd hb _), pre_succ]; rfl
theorem reftake_ev (l : List Int) (hb : isBytes l) (hl : l.length ≤ 1000000) : Ev (fun k => busbarref04_Take.f k l) (words l) := by
  unfold busbarref04_Take.f words
  by_cases he : l.length % 2 = 0
  · rw [if_pos he]
    exact neg (by omega) (ref_loop l hb hl he (l.length / 2) 0 (by omega))
  · rw [if_neg he]
    exact pos (by omega) (ret rfl)
end Go.Proofs.Ythhkjmoppaopjaa.Take
