/- The law DiagCuts: its walk, and the plain law. Conditions: what each theorem states. -/
import Derived.Test.YtalaochocmcbcaaVE
set_option linter.unusedVariables false
set_option linter.unusedSimpArgs false
set_option maxHeartbeats 16000000
set_option maxRecDepth 100000
section
namespace Go.Proofs.Ytalaochocmcbcaa.Laws
open Go.RowKit Go.Proofs.Ytalaochocmcbcaa.P Go.Proofs.Ytalaochocmcbcaa.E Go.Proofs.Ytalaochocmcbcaa.Cur Go.Proofs.Ytalaochocmcbcaa.Cu Go.Proofs.Ytalaochocmcbcaa.Same Go.Proofs.Ytalaochocmcbcaa.Code Go.Proofs.Ytalaochocmcbcaa.Put Go.Proofs.Ytalaochocmcbcaa.Com Go.Proofs.Ytalaochocmcbcaa.Diag Go.Proofs.YtalaochocmcbcaaW.PrintWords Go.Proofs.YtalaochocmcbcaaW.PrintLast Go.Proofs.YtalaochocmcbcaaW.PrintMore
theorem prob_c {dir code : Int} {l : List Int} (hs : l.length ≤ 1000000) (hb : isBytes l) (hc : 0 ≤ code ∧ code < 256) : PRob 12 dir code l (parse dir code l) := fun A c W hr hc2 => parse_rob hr hc2 hs hb hc
theorem busbarlaw10_DiagCuts (response : Bool) (m : Msg) (cx : Array Value) (at_ c : Int) (w : World) (hm : IsMsg w cx m) (hat : (Lit.int .u16 at_).wf = true) (hc : (Lit.int .u8 c).wf = true) :
    Calls Try.prog 10 #[.bool response, .agg cx, .int .u16 at_, .int .u8 c] w fun en w' => en = .returned (.bool true) ∧ Below w.heap.size w w' := by
  cases hf : fewB m with
  | false => exact Cuts_many hm awake_c hf
  | true =>
  have hat := u16_wf hat
  have hc := u8_wf hc
  have hg := hm.good
  have hcd := (goodM_num hg).1.1
  have hs := few_small hf
  have hlb := fun dir => lay_bytes (dir := dir) hg
  have hll := fun dir => lay_len (dir := dir) hs.1 hs.2
  have key : ∀ dir : Int, (write dir m).2 = 0 → (write dir m).1.length ≠ 0 → ∃ k : Nat, Int.tmod at_ ((write dir m).1.length : Int) = (k : Int) ∧ k < (write dir m).1.length ∧ (write dir m).1.length ≤ 1000000 ∧ PRob 12 dir m.code ((write dir m).1.take k) (parse dir m.code ((write dir m).1.take k)) ∧ ((parse dir m.code ((write dir m).1.take k)).2 ≠ 0 ∨ ((parse dir m.code ((write dir m).1.take k)).2 = 0 ∧ sameB (parse dir m.code ((write dir m).1.take k)).1 m = false)) ∧ PRob 12 dir m.code ((write dir m).1 ++ [c]) (parse dir m.code ((write dir m).1 ++ [c])) ∧ ((parse dir m.code ((write dir m).1 ++ [c])).2 ≠ 0 ∨ ((parse dir m.code ((write dir m).1 ++ [c])).2 = 0 ∧ sameB (parse dir m.code ((write dir m).1 ++ [c])).1 m = false)) := by
    intro dir h0
    have hl := hll dir
    have hb := hlb dir
    have e : write dir m = (lay dir m, 0) := (writeR_ok h0).2.2
    rw [e]
    show (lay dir m).length ≠ 0 → ∃ k : Nat, Int.tmod at_ ((lay dir m).length : Int) = (k : Int) ∧ k < (lay dir m).length ∧ (lay dir m).length ≤ 1000000 ∧ PRob 12 dir m.code ((lay dir m).take k) (parse dir m.code ((lay dir m).take k)) ∧ ((parse dir m.code ((lay dir m).take k)).2 ≠ 0 ∨ ((parse dir m.code ((lay dir m).take k)).2 = 0 ∧ sameB (parse dir m.code ((lay dir m).take k)).1 m = false)) ∧ PRob 12 dir m.code (lay dir m ++ [c]) (parse dir m.code (lay dir m ++ [c])) ∧ ((parse dir m.code (lay dir m ++ [c])).2 ≠ 0 ∨ ((parse dir m.code (lay dir m ++ [c])).2 = 0 ∧ sameB (parse dir m.code (lay dir m ++ [c])).1 m = false))
    intro hn
    have hk : 0 ≤ at_ % ((lay dir m).length : Int) ∧ at_ % ((lay dir m).length : Int) < ((lay dir m).length : Int) := ⟨Int.emod_nonneg _ (by omega), Int.emod_lt_of_pos _ (by omega)⟩
    have bt : isBytes ((lay dir m).take (at_ % ((lay dir m).length : Int)).toNat) := fun x hx => hb x (List.mem_of_mem_take hx)
    have ba : isBytes (lay dir m ++ [c]) := fun x hx => (List.mem_append.1 hx).elim (hb x) (fun hx => by obtain rfl := List.mem_singleton.1 hx; exact hc)
    have or2 : ∀ {p : Int} {b : Bool}, (p ≠ 0 ∨ b = false) → (p ≠ 0 ∨ (p = 0 ∧ b = false)) := fun {p b} h => by
      by_cases hp : p = 0
      · exact .inr ⟨hp, h.resolve_left (fun h => h hp)⟩
      · exact .inl hp
    refine ⟨(at_ % ((lay dir m).length : Int)).toNat, ?_, by omega, by omega, prob_c (by rw [List.length_take]; omega) bt hcd, or2 (other_m bt (fun e => ?_)), prob_c (by simp; omega) ba hcd, or2 (other_m ba (fun e => ?_))⟩
    · rw [Int.tmod_eq_emod_of_nonneg hat.1]
      omega
    · have := congrArg List.length e
      rw [List.length_take] at this
      omega
    · have := congrArg List.length e
      simp at this
  cases response with
  | false =>
    by_cases h0 : (write 0 m).2 = 0
    · by_cases hn : (write 0 m).1.length = 0
      · exact Cuts_0e hm awake_c hf (write_c hs.1 hs.2 hg) h0 hn
      · obtain ⟨k, k1, k2, k3, k4, k5, k6, k7⟩ := key 0 h0 hn
        exact Cuts_01 hm awake_c hf (write_c hs.1 hs.2 hg) hat h0 k3 k1 k2 k4 k5 k6 k7
    · exact Cuts_00 hm awake_c hf (write_c hs.1 hs.2 hg) (by rw [show write 0 m = _ from writeR_no h0])
  | true =>
    by_cases h0 : (write 1 m).2 = 0
    · by_cases hn : (write 1 m).1.length = 0
      · exact Cuts_1e hm awake_c hf (write_c hs.1 hs.2 hg) h0 hn
      · obtain ⟨k, k1, k2, k3, k4, k5, k6, k7⟩ := key 1 h0 hn
        exact Cuts_11 hm awake_c hf (write_c hs.1 hs.2 hg) hat h0 k3 k1 k2 k4 k5 k6 k7
    · exact Cuts_10 hm awake_c hf (write_c hs.1 hs.2 hg) (by rw [show write 1 m = _ from writeR_no h0])
end Go.Proofs.Ytalaochocmcbcaa.Laws
end
