/- What it is that messages are one; whether a message has lists of a size that is looked at: what busbarref07.Few computes. -/
import Derived.Test.YtbilolgiihegiaaSame
import Derived.Test.YtbilolgiihegiaaPx26
set_option linter.unusedVariables false
set_option linter.unusedSimpArgs false
namespace Go.Proofs.Ytbilolgiihegiaa.Same
open Go.RowKit Go.Proofs.Ytbilolgiihegiaa.P Go.Proofs.Ytbilolgiihegiaa.E Go.Proofs.YtbilolgiihegiaaW.PrintWords Go.Proofs.YtbilolgiihegiaaW.PrintLast Go.Proofs.YtbilolgiihegiaaW.PrintMore
theorem listB_refl {α : Type} {f : α → α → Bool} (h : ∀ x, f x x = true) : ∀ l : List α, listB f l l = true
  | [] => rfl
  | x :: xs => by simp only [listB, h x, listB_refl h xs, Bool.and_self]
theorem listB_comm {α : Type} {f : α → α → Bool} (h : ∀ x y, f x y = f y x) : ∀ l m : List α, listB f l m = listB f m l
  | [], [] => rfl
  | x :: xs, y :: ys => by simp only [listB, h x y, listB_comm h xs ys]
  | [], _ :: _ => rfl
  | _ :: _, [] => rfl
theorem listB_eq {α : Type} {f : α → α → Bool} (h : ∀ x y, f x y = true → x = y) : ∀ l m : List α, listB f l m = true → l = m
  | [], [], _ => rfl
  | x :: xs, y :: ys, e => by
    simp only [listB, Bool.and_eq_true] at e
    rw [h x y e.1, listB_eq h xs ys e.2]
  | [], _ :: _, e => by cases e
  | _ :: _, [], e => by cases e
theorem rec_refl (x) : recB x x = true := by simp [recB]
theorem obj_refl (x) : objB x x = true := by simp [objB]
theorem rec_eq (x y) (h : recB x y = true) : x = y := by
  unfold recB at h
  simp only [Bool.and_eq_true, beq_iff_eq] at h
  obtain ⟨⟨⟨h0, h1⟩, h2⟩, h3⟩ := h
  cases x; cases y; simp_all
theorem obj_eq (x y) (h : objB x y = true) : x = y := by
  unfold objB at h
  simp only [Bool.and_eq_true, beq_iff_eq] at h
  cases x; cases y; simp_all
theorem beq_comm' {α : Type} [BEq α] [LawfulBEq α] (a b : α) : (a == b) = (b == a) := by rw [Bool.eq_iff_iff, beq_iff_eq, beq_iff_eq]; exact eq_comm
theorem rec_comm (x y) : recB x y = recB y x := by unfold recB; rw [beq_comm' x.f0, beq_comm' x.f1, beq_comm' x.f2, beq_comm' x.f3]
theorem obj_comm (x y) : objB x y = objB y x := by unfold objB; rw [beq_comm' x.f0, beq_comm' x.f1]
theorem same_refl (x : Msg) : sameB x x = true := by
  unfold sameB plainB
  simp only [beq_self_eq_true, Bool.true_and, listB_refl rec_refl, listB_refl obj_refl]
theorem same_comm (x y : Msg) : sameB x y = sameB y x := by
  unfold sameB plainB
  rw [listB_comm rec_comm, listB_comm obj_comm, beq_comm' x.words, beq_comm' x.bits, beq_comm' x.data, beq_comm' x.code, beq_comm' x.fail, beq_comm' x.addr, beq_comm' x.count, beq_comm' x.value, beq_comm' x.and_, beq_comm' x.or_, beq_comm' x.addr2, beq_comm' x.sub, beq_comm' x.status, beq_comm' x.events, beq_comm' x.messages, beq_comm' x.mei, beq_comm' x.kind, beq_comm' x.level, beq_comm' x.more, beq_comm' x.next]
/-- Messages are one when all their fields are. -/
theorem same_eq (x y : Msg) : sameB x y = true ↔ x = y := by
  constructor
  · intro h
    unfold sameB plainB at h
    simp only [Bool.and_eq_true, beq_iff_eq] at h
    obtain ⟨⟨⟨⟨⟨⟨⟨⟨⟨⟨⟨⟨⟨⟨⟨⟨⟨⟨⟨⟨⟨h0, h1⟩, h2⟩, h3⟩, h4⟩, h5⟩, h6⟩, h7⟩, h8⟩, h9⟩, h10⟩, h11⟩, h12⟩, h13⟩, h14⟩, h15⟩, h16⟩, k0⟩, k1⟩, k2⟩, k3⟩, k4⟩ := h
    have e3 := listB_eq rec_eq _ _ k3
    have e4 := listB_eq obj_eq _ _ k4
    cases x; cases y; simp_all
  · rintro rfl
    exact same_refl x
theorem few_l1 (m : Msg) (hl : (m.objects.length : Int) < 1000) (d : Nat) : ∀ i, i + d = m.objects.length → Ev (fun k => busbarref07_Few.l1 k (i : Int) m.code m.fail m.addr m.count m.value m.and_ m.or_ m.addr2 m.sub m.status m.events m.messages m.words m.bits m.data m.recs m.mei m.kind m.level m.more m.next m.objects) ((m.objects.drop i).all (fun o => decide (o.f1.length ≤ 300))) := by
  induction d with
  | zero =>
    intro i hi
    have c : ¬ (i : Int) < (m.objects.length : Int) := by omega
    rw [List.drop_eq_nil_of_le (by omega)]
    refine Ev.step (f := fun _ => some true) (fun k => ?_) (ret rfl)
    simp only [busbarref07_Few.l1]
    rw [if_neg c]
  | succ d ih =>
    intro i hi
    have c1 : (i : Int) < (m.objects.length : Int) := by omega
    have c2 : (0 : Int) ≤ (i : Int) := by omega
    have d3 : (i : Int) + 1 = ((i + 1 : Nat) : Int) := by omega
    have e3 : ((i + 1 : Nat) : Int) < 9223372036854775808 := by omega
    have e4 : -9223372036854775808 ≤ ((i + 1 : Nat) : Int) := by omega
    have hn := ih (i + 1) (by omega)
    have hr : rd_T52 m.objects (i : Int) = m.objects.getD i z52 := by unfold rd_T52; rw [Int.toNat_natCast]
    rw [drop_cons (show i < m.objects.length by omega) z52]
    by_cases hc : ((m.objects.getD i z52).f1.length : Int) > 300
    · refine Ev.step (f := fun _ => some false) (fun k => ?_) (ret ?_)
      · simp only [busbarref07_Few.l1]
        rw [if_pos c1, if_pos c2, hr, if_pos hc]
      · simp only [List.all_cons]
        rw [decide_eq_false (show ¬ (m.objects.getD i z52).f1.length ≤ 300 by omega)]; rfl
    · refine Ev.step (f := fun k => busbarref07_Few.l1 k ((i + 1 : Nat) : Int) m.code m.fail m.addr m.count m.value m.and_ m.or_ m.addr2 m.sub m.status m.events m.messages m.words m.bits m.data m.recs m.mei m.kind m.level m.more m.next m.objects) (fun k => ?_) ?_
      · simp only [busbarref07_Few.l1]
        rw [if_pos c1, if_pos c2, hr, if_neg hc, d3, wrap64_id e4 e3]
      · simp only [List.all_cons]
        rw [decide_eq_true (show (m.objects.getD i z52).f1.length ≤ 300 by omega), Bool.true_and]
        exact hn
theorem few_l0 (m : Msg) (hl : (m.recs.length : Int) < 1000) (ho : (m.objects.length : Int) < 1000) (d : Nat) : ∀ i, i + d = m.recs.length → Ev (fun k => busbarref07_Few.l0 k (i : Int) m.code m.fail m.addr m.count m.value m.and_ m.or_ m.addr2 m.sub m.status m.events m.messages m.words m.bits m.data m.recs m.mei m.kind m.level m.more m.next m.objects) ((m.recs.drop i).all (fun o => decide (o.f3.length ≤ 200)) && (m.objects.all fun o => decide (o.f1.length ≤ 300))) := by
  induction d with
  | zero =>
    intro i hi
    have c : ¬ (i : Int) < (m.recs.length : Int) := by omega
    rw [List.drop_eq_nil_of_le (by omega)]
    refine Ev.step (f := fun k => busbarref07_Few.l1 k ((0 : Nat) : Int) m.code m.fail m.addr m.count m.value m.and_ m.or_ m.addr2 m.sub m.status m.events m.messages m.words m.bits m.data m.recs m.mei m.kind m.level m.more m.next m.objects) (fun k => ?_) ?_
    · simp only [busbarref07_Few.l0]
      rw [if_neg c]; rfl
    · have := few_l1 m ho m.objects.length 0 (by omega)
      simpa using this
  | succ d ih =>
    intro i hi
    have c1 : (i : Int) < (m.recs.length : Int) := by omega
    have c2 : (0 : Int) ≤ (i : Int) := by omega
    have d3 : (i : Int) + 1 = ((i + 1 : Nat) : Int) := by omega
    have e3 : ((i + 1 : Nat) : Int) < 9223372036854775808 := by omega
    have e4 : -9223372036854775808 ≤ ((i + 1 : Nat) : Int) := by omega
    have hn := ih (i + 1) (by omega)
    have hr : rd_T50 m.recs (i : Int) = m.recs.getD i z50 := by unfold rd_T50; rw [Int.toNat_natCast]
    rw [drop_cons (show i < m.recs.length by omega) z50]
    by_cases hc : ((m.recs.getD i z50).f3.length : Int) > 200
    · refine Ev.step (f := fun _ => some false) (fun k => ?_) (ret ?_)
      · simp only [busbarref07_Few.l0]
        rw [if_pos c1, if_pos c2, hr, if_pos hc]
      · simp only [List.all_cons]
        rw [decide_eq_false (show ¬ (m.recs.getD i z50).f3.length ≤ 200 by omega)]; rfl
    · refine Ev.step (f := fun k => busbarref07_Few.l0 k ((i + 1 : Nat) : Int) m.code m.fail m.addr m.count m.value m.and_ m.or_ m.addr2 m.sub m.status m.events m.messages m.words m.bits m.data m.recs m.mei m.kind m.level m.more m.next m.objects) (fun k => ?_) ?_
      · simp only [busbarref07_Few.l0]
        rw [if_pos c1, if_pos c2, hr, if_neg hc, d3, wrap64_id e4 e3]
      · simp only [List.all_cons]
        rw [decide_eq_true (show (m.recs.getD i z50).f3.length ≤ 200 by omega), Bool.true_and]
        exact hn
/-- Lists of a size that is looked at. -/
def fewB (m : Msg) : Bool := decide (m.words.length ≤ 300 ∧ m.bits.length ≤ 2500 ∧ m.data.length ≤ 300 ∧ m.recs.length ≤ 50 ∧ m.objects.length ≤ 100) && ((m.recs.all fun o => decide (o.f3.length ≤ 200)) && (m.objects.all fun o => decide (o.f1.length ≤ 300)))
theorem few_no (m : Msg) (h : ¬ (m.words.length ≤ 300 ∧ m.bits.length ≤ 2500 ∧ m.data.length ≤ 300 ∧ m.recs.length ≤ 50 ∧ m.objects.length ≤ 100)) : Ev (fun k => busbarref07_Few.j0 k true m.code m.fail m.addr m.count m.value m.and_ m.or_ m.addr2 m.sub m.status m.events m.messages m.words m.bits m.data m.recs m.mei m.kind m.level m.more m.next m.objects) (fewB m) := by
  refine Ev.step (f := fun _ => some false) (fun k => ?_) (ret ?_)
  · simp only [busbarref07_Few.j0]
    rw [if_pos trivial]
  · unfold fewB
    rw [decide_eq_false h]; rfl
theorem few_ev (m : Msg) : Ev (fun k => busbarref07_Few.f k m.code m.fail m.addr m.count m.value m.and_ m.or_ m.addr2 m.sub m.status m.events m.messages m.words m.bits m.data m.recs m.mei m.kind m.level m.more m.next m.objects) (fewB m) := by
  unfold busbarref07_Few.f
  by_cases h1 : (m.words.length : Int) > 300
  · exact pos h1 (few_no m (by omega))
  refine neg h1 ?_
  by_cases h2 : (m.bits.length : Int) > 2500
  · exact pos h2 (few_no m (by omega))
  refine neg h2 ?_
  by_cases h3 : (m.data.length : Int) > 300
  · exact pos h3 (few_no m (by omega))
  refine neg h3 ?_
  by_cases h4 : (m.recs.length : Int) > 50
  · exact pos h4 (few_no m (by omega))
  refine neg h4 ?_
  by_cases h5 : (m.objects.length : Int) > 100
  · rw [decide_eq_true h5]
    exact few_no m (by omega)
  · rw [decide_eq_false h5]
    refine Ev.step (f := fun k => busbarref07_Few.l0 k ((0 : Nat) : Int) m.code m.fail m.addr m.count m.value m.and_ m.or_ m.addr2 m.sub m.status m.events m.messages m.words m.bits m.data m.recs m.mei m.kind m.level m.more m.next m.objects) (fun k => ?_) ?_
    · simp only [busbarref07_Few.j0]
      rw [if_neg (by simp)]; rfl
    · have := few_l0 m (by omega) (by omega) m.recs.length 0 (by omega)
      unfold fewB
      rw [decide_eq_true (by omega), Bool.true_and]
      simpa using this
end Go.Proofs.Ytbilolgiihegiaa.Same
