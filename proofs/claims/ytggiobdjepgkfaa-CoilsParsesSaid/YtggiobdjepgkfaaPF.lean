/- What the laws of this chapter rest on, part 6: what the functions that they reach answer, each shown once. Conditions: what each theorem states. (Merged by a program of this session, wip/tools/merge.py, out of its own texts and of the words that the kit's print wrote for this seat, cut to those that are used.) -/
import Derived.Deep.Slices
import Derived.Deep.Fields
import Derived.ChangeArms
import Derived.Test.YtggiobdjepgkfaaPE
set_option linter.unusedVariables false
set_option linter.unusedSimpArgs false
set_option maxHeartbeats 16000000
set_option maxRecDepth 100000
section
namespace Go.Proofs.Ytggiobdjepgkfaa.Open
open Go.RowKit Go.ChangeShapes Go.WideShapes Go.Deep Go.Proofs.YtggiobdjepgkfaaW.PrintWords
def Opens {H : Type} (enc : TypeId × Value → H) (P : Program) (w : World) (base : Nat) (held : Bool) (t : TypeId) {α : Type} (d : Kd α) (good : α → Prop) : Prop :=
  ∀ fuel cs x, DataW.trod enc P w base (fun _ => true) held fuel t cs = some x → ∃ y, d.K w y cs ∧ good y
section
variable {H : Type} {enc : TypeId × Value → H} {P : Program} {w : World} {base : Nat} {held : Bool} {α : Type}
theorem opens_int {t : TypeId} {k : IntKind} (ht : P.underlying t = some (.int k)) : Opens enc P w base held t (Kd.int k) (fun n => (Lit.int k n).wf = true) := by
  intro fuel cs x h
  obtain ⟨n, rfl, _, hw⟩ := DataW.trod_int ht h
  exact ⟨n, rfl, hw⟩
theorem opens_bool {t : TypeId} (ht : P.underlying t = some .bool) : Opens enc P w base held t Kd.bool (fun _ => True) := by
  intro fuel cs x h
  obtain ⟨b, rfl, _⟩ := DataW.trod_bool ht h
  exact ⟨b, rfl, trivial⟩
theorem opens_slice {t e : TypeId} {d : Kd α} {g : α → Prop} (ht : P.underlying t = some (.slice e)) (hc : P.cellsOf e = d.sz) (h : Opens enc P w base held e d g) :
    Opens enc P w base held t (Kd.slice e d) (fun l => l.length ≤ maxLen ∧ ∀ x ∈ l, g x) := by
  intro fuel cs x hx
  rcases open_slice ht hx with ⟨rfl, _⟩ | ⟨a, len, cap, m, n, D, Pl, rfl, _, hl, hm, hmm, _, hel⟩
  · exact ⟨[], ⟨none, 0, rfl, Nat.le_refl _, Kd.C_nil d w⟩, Nat.zero_le _, fun x hx => by cases hx⟩
  · simp only [if_true] at hmm
    subst hmm
    have hone : ∀ i : Fin len, ∃ y, (∃ c, c.length = d.sz ∧ d.K w y c ∧ ∀ j u, c[j]? = some u → w.cell? (a.add (i.val * d.sz + j)) = some u) ∧ g y := by
      intro i
      obtain ⟨cs', h1, h2⟩ := hel i.val (Nat.lt_of_lt_of_le i.isLt hl)
      obtain ⟨y, hk, hg⟩ := h n cs' _ h2
      rw [hc] at h1
      obtain ⟨_, h4, h5⟩ := World.cells?_some h1
      refine ⟨y, ⟨cs', h4, hk, fun j u hu => ?_⟩, hg⟩
      have hj : j < d.sz := by rw [← h4]; exact (List.getElem?_eq_some_iff.1 hu).1
      have := h5 j hj
      rw [hu] at this
      rw [← Addr.add_add]
      exact this
    let ys := List.ofFn fun i => Classical.choose (hone i)
    have hy : ys.length = len := by simp [ys]
    refine ⟨ys, ⟨some a, m, by rw [hy], by rw [hy]; exact hl, ?_⟩, by rw [hy]; exact Nat.le_trans hl hm, ?_⟩
    · refine ⟨rfl, by rw [hy]; exact Nat.le_trans hl hm, fun _ => ⟨a, rfl, fun j p hp => ?_⟩⟩
      have hj : j < len := by rw [← hy]; exact (List.getElem?_eq_some_iff.1 hp).1
      have : p = Classical.choose (hone ⟨j, hj⟩) := by
        simp only [ys, List.getElem?_ofFn, hj, dite_true] at hp
        exact (Option.some.inj hp).symm
      subst this
      exact (Classical.choose_spec (hone ⟨j, hj⟩)).1
    · intro x hx
      simp only [ys, List.mem_ofFn] at hx
      obtain ⟨i, rfl⟩ := hx
      exact (Classical.choose_spec (hone i)).2
theorem opens_at {fs : Array Field} {cs : List Value} {xs : List (DataW H × List MemPlace)} {n : Nat} {d : Kd α} {g : α → Prop}
    (hf : ∀ (i : Nat) (f : Field), fs[i]? = some f → DataW.trod enc P w base (fun _ => true) held n f.type ((cs.drop f.offset).take (P.cellsOf f.type)) = xs[i]?) (hlen : xs.length = fs.size)
    (hone : oneCellFields P fs = true) (i : Nat) (f : Field) (hi : fs[i]? = some f) (c : Value) (hc : cs[i]? = some c) (H1 : Opens enc P w base held f.type d g) : ∃ y, d.K w y [c] ∧ g y := by
  obtain ⟨o1, k1⟩ := hone_of hone i f hi
  have h := hf i f hi
  have hlt : i < xs.length := by rw [hlen]; exact (Array.getElem?_eq_some_iff.1 hi).1
  rw [o1, k1, List.getElem?_eq_getElem hlt] at h
  have hci := (List.getElem?_eq_some_iff.1 hc).1
  have hs : (cs.drop i).take 1 = [c] := by
    rw [List.drop_eq_getElem_cons hci, List.take_succ_cons, List.take_zero, (List.getElem?_eq_some_iff.1 hc).2]
  rw [hs] at h
  exact H1 n [c] _ h
theorem open_slice_arg {t e : TypeId} {d : Kd α} {g : α → Prop} {a : Option Addr} {len cap : Nat} {x : DataW H} {p : List MemPlace} (h : DataW.Trod enc P w base (fun _ => true) held t (.slice a len cap) x p)
    (H1 : Opens enc P w base held t (Kd.slice e d) (fun l => l.length ≤ maxLen ∧ ∀ x ∈ l, g x)) : ∃ l, len = l.length ∧ d.C w a l.length l ∧ l.length ≤ cap ∧ l.length ≤ maxLen ∧ ∀ x ∈ l, g x := by
  obtain ⟨fuel, hf⟩ := h
  obtain ⟨l, ⟨A, c, he, hl, hC⟩, h1, h2⟩ := H1 fuel _ _ hf
  simp [Value.cells] at he
  obtain ⟨rfl, rfl, rfl⟩ := he
  exact ⟨l, rfl, hC, hl, h1, h2⟩
end
end Go.Proofs.Ytggiobdjepgkfaa.Open
end
