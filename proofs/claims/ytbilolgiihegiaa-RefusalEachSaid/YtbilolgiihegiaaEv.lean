/- Small steps for printed functions with rounds: which way is taken, what is told; lists that are compared. -/
import Derived.Test.YtbilolgiihegiaaWMore
import Derived.Test.YtbilolgiihegiaaWNEv
set_option linter.unusedVariables false
set_option linter.unusedSimpArgs false
namespace Go.Proofs.Ytbilolgiihegiaa.P
end Go.Proofs.Ytbilolgiihegiaa.P
namespace Go.Proofs.Ytbilolgiihegiaa.E
open Go.RowKit Go.Proofs.YtbilolgiihegiaaW.PrintWords Go.Proofs.YtbilolgiihegiaaW.PrintLast Go.Proofs.YtbilolgiihegiaaW.PrintMore
theorem pos {α : Type} {c : Prop} [Decidable c] {f g : Nat → Option α} {r : α} (h : c) (k : Ev f r) : Ev (fun n => if c then f n else g n) r := Ev.congr (fun _ => if_pos h) k
theorem neg {α : Type} {c : Prop} [Decidable c] {f g : Nat → Option α} {r : α} (h : ¬ c) (k : Ev g r) : Ev (fun n => if c then f n else g n) r := Ev.congr (fun _ => if_neg h) k
theorem ret {α : Type} {a r : α} (h : a = r) : Ev (fun _ => some a) r := h ▸ Ev.now a
theorem bind0 {α β : Type} {x : Option α} {a : α} {f : Nat → α → Option β} {r : β} (hx : x = some a) (k : Ev (fun n => f n a) r) : Ev (fun n => x.bind (f n)) r := Ev.congr (fun _ => by rw [hx]; rfl) k
theorem wrap64_id {x : Int} (h0 : -9223372036854775808 ≤ x) (h1 : x < 9223372036854775808) : wrap64 x = x := by unfold wrap64; omega
theorem tdiv_id {a b : Int} (h : 0 ≤ a) : Int.tdiv a b = a / b := Int.tdiv_eq_ediv_of_nonneg h
theorem tmod_id {a b : Int} (h : 0 ≤ a) : Int.tmod a b = a % b := Int.tmod_eq_emod_of_nonneg h
def isBytes (b : List Int) : Prop := ∀ x ∈ b, 0 ≤ x ∧ x < 256
theorem isBytes_rd {b : List Int} (hb : isBytes b) (j : Nat) : 0 ≤ b.getD j 0 ∧ b.getD j 0 < 256 := by
  by_cases h : j < b.length
  · rw [List.getD_eq_getElem?_getD, List.getElem?_eq_getElem h]; exact hb _ (List.getElem_mem h)
  · rw [List.getD_eq_getElem?_getD, List.getElem?_eq_none (by omega)]; simp
theorem isBytes_append {a b : List Int} (ha : isBytes a) (hb : isBytes b) : isBytes (a ++ b) := fun x hx => (List.mem_append.1 hx).elim (ha x) (hb x)
theorem isBytes_take {l : List Int} (h : isBytes l) (m : Nat) : isBytes (l.take m) := fun x hx => h x (List.mem_of_mem_take hx)
theorem isBytes_drop {l : List Int} (h : isBytes l) (m : Nat) : isBytes (l.drop m) := fun x hx => h x (List.mem_of_mem_drop hx)
theorem str_list (l : List Int) : (strOfNums l).toList = l.map fun n => UInt8.ofNat n.toNat := by
  unfold strOfNums
  rw [ByteArray.toList_eq]
theorem map_inj {l m : List Int} (hl : isBytes l) (hm : isBytes m) (h : (l.map fun n => UInt8.ofNat n.toNat) = m.map fun n => UInt8.ofNat n.toNat) : l = m := by
  induction l generalizing m with
  | nil => cases m with
    | nil => rfl
    | cons => simp at h
  | cons x xs ih => cases m with
    | nil => simp at h
    | cons y ys =>
      simp only [List.map_cons, List.cons.injEq] at h
      obtain ⟨h1, h2⟩ := h
      have hx := hl x List.mem_cons_self; have hy := hm y List.mem_cons_self
      have e : x = y := by
        have := congrArg UInt8.toNat h1
        simp only [UInt8.toNat_ofNat'] at this
        omega
      rw [e, ih (fun z hz => hl z (List.mem_cons_of_mem _ hz)) (fun z hz => hm z (List.mem_cons_of_mem _ hz)) h2]
theorem str_eq {l m : List Int} (hl : isBytes l) (hm : isBytes m) : ((strOfNums l).toList = (strOfNums m).toList) = (l = m) := by
  rw [str_list, str_list]
  exact propext ⟨map_inj hl hm, fun h => by rw [h]⟩
theorem str_beq {l m : List Int} (hl : isBytes l) (hm : isBytes m) : ((strOfNums l).toList == (strOfNums m).toList) = (l == m) := by
  rw [Bool.eq_iff_iff, beq_iff_eq, beq_iff_eq, str_eq hl hm]
theorem drop_cons {α : Type} {l : List α} {i : Nat} (h : i < l.length) (d : α) : l.drop i = l.getD i d :: l.drop (i + 1) := by
  rw [List.drop_eq_getElem_cons h, List.getD_eq_getElem?_getD, List.getElem?_eq_getElem h]; rfl
end Go.Proofs.Ytbilolgiihegiaa.E
