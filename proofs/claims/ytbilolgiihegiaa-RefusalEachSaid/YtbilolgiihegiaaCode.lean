/- Which codes, reasons and sub-functions there are: sets that are made as maps, and asked. Conditions: none but numbers of their kind. -/
import Derived.Test.YtbilolgiihegiaaPx0
import Derived.Maps.OwnOps
import Derived.Maps.Views
set_option linter.unusedVariables false
set_option linter.unusedSimpArgs false
namespace Go.Proofs.Ytbilolgiihegiaa.Code
open Go.RowKit Go.Maps Go.Proofs.YtbilolgiihegiaaW.PrintWords Go.Proofs.YtbilolgiihegiaaW.PrintLast Go.Proofs.YtbilolgiihegiaaW.PrintMore

/-- Numbers that are a set. -/
def setD (q : IntKind) (l : List Int) : DataW Unit := l.foldl (fun D x => D.put (.int q x) (.lit (.bool true))) (.map [])
theorem setD_map (q : IntKind) (l : List Int) : ∀ D : DataW Unit, IsMap D → IsMap (l.foldl (fun D x => D.put (.int q x) (.lit (.bool true))) D) := by
  induction l with
  | nil => exact fun D h => h
  | cons x l ih => exact fun D h => ih _ (h.put _ _)
theorem setD_snoc (q : IntKind) (l : List Int) (x : Int) : setD q (l ++ [x]) = (setD q l).put (.int q x) (.lit (.bool true)) := by unfold setD; rw [List.foldl_append]; rfl
theorem setD_isMap (q : IntKind) (l : List Int) : IsMap (setD q l) := setD_map q l _ ⟨[], rfl⟩
theorem fold_at (q : IntKind) (c : Int) (l : List Int) : ∀ (D : DataW Unit) (b : Bool), IsMap D → D.atKey (.int q c) (.lit (.bool false)) = .lit (.bool b) → (l.foldl (fun D x => D.put (.int q x) (.lit (.bool true))) D).atKey (.int q c) (.lit (.bool false)) = .lit (.bool (b || l.contains c)) := by
  induction l with
  | nil => intro D b _ h; simpa using h
  | cons x l ih =>
    intro D b hD h
    rw [List.foldl_cons]
    by_cases e : x = c
    · subst e
      rw [ih _ true (hD.put _ _) (atKey_put_same hD (by trivial) _ _)]
      simp
    · rw [ih _ b (hD.put _ _) ((atKey_put_other (fun h => e (by injection h with _ h; exact h.symm)) _ _).trans h)]
      have : (c == x) = false := by rw [beq_eq_false_iff_ne]; exact fun h => e h.symm
      have h2 : ¬ c = x := fun h => e h.symm
      simp [h2]
theorem setD_at (q : IntKind) (l : List Int) (c : Int) : (setD q l).atKey (.int q c) (.lit (.bool false)) = .lit (.bool (l.contains c)) := by
  unfold setD
  rw [fold_at q c l _ false ⟨[], rfl⟩ rfl, Bool.false_or]
theorem plainElem_bool_inv {P : Program} {e : TypeId} (he : P.underlying e = some .bool) {v : Value} {z : DataW Unit × List MemPlace} (h : plainElem P e v = some z) : ∃ b, v = .bool b ∧ z = (.lit (.bool b), []) := by
  unfold plainElem at h
  rw [he] at h
  cases v <;> simp_all

theorem lawu8 : Keyed Try.prog 5 := int_keyed Try.underlying5
theorem zeroBu8 (w : World) : (zeroValue 4).run Try.prog w = .ok (.bool false) w := by kernel_rfl
theorem look_u8 {w : World} {b n : Nat} {l : List Int} (h : w.ownsMap Try.prog 5 (plainElem Try.prog 4) b n (setD .u8 l)) (c : Int) (hc : (Lit.int .u8 c).wf = true) :
    (Instr.lookup 53 (.map (some b)) (.int .u8 c) false).run Try.prog w = .ok (.bool (l.contains c)) w := by
  obtain ⟨vv, ps, hrun, hRv⟩ := h.lookup lawu8 Try.underlying53 (zeroBu8 _) (plainElem_bool Try.underlying4 false) (keyOf_int_mk Try.underlying5 hc)
  rw [setD_at] at hRv
  obtain ⟨bb, rfl, hbb⟩ := plainElem_bool_inv Try.underlying4 hRv
  simp only [Prod.mk.injEq, DataW.lit.injEq, Lit.bool.injEq] at hbb
  rw [hbb.1]
  exact hrun
set_option maxHeartbeats 800000 in
set_option maxRecDepth 100000 in
theorem set_u8 (A : Option Addr) (c : Nat) (l : List Int) (w : World) (hr : Kd.C (Kd.int .u8) w A l.length l) (hs : l.length ≤ 1000) (hwf : ∀ x ∈ l, (Lit.int .u8 x).wf = true) :
    Calls Try.prog 25 #[.slice A l.length c] w fun e w' => ∃ b, e = .returned (.map (some b)) ∧ w'.ownsMap Try.prog 5 (plainElem Try.prog 4) b l.length (setD .u8 l) ∧ Below w.heap.size w w' := by
  have HR := Aside0.mk hr
  clear hr
  have hmm := @run_makeMap Try.prog
  go_enter Try.func25, Try.ntmps25
  go_wp2
  go_loopw [9] (fun i wr => ∃ k : Nat, k ≤ l.length ∧ i = .int .i64 k ∧ wr.ownsMap Try.prog 5 (plainElem Try.prog 4) w.heap.size k (setD .u8 (l.take k)) ∧ Below w.heap.size w wr)
    (fun i _ => l.length - (intOf i).toNat)
  case atStart => exact ⟨0, Nat.zero_le _, rfl, World.ownsMap_made _ _ _ _, (Below.refl _ _).alloc (Nat.le_refl _) _⟩
  case round =>
    obtain ⟨k, hk, rfl, hown, hnx⟩ := hrel
    by_cases hlt : k < l.length
    · obtain ⟨ad, rfl, hx⟩ := Kd.at_int HR.out (k : Int) (by omega) (by omega)
      have hcx := (hnx.cell (World.block_lt_of_cell? w _ hx)).trans hx
      rw [Int.toNat_natCast] at hcx
      have hw2 : (Lit.int .u8 (rd l (k : Int))).wf = true := by
        unfold rd
        rw [Int.toNat_natCast, List.getD_eq_getElem?_getD, List.getElem?_eq_getElem hlt]
        exact hwf _ (List.getElem_mem hlt)
      have hkey : keyOf Try.prog 5 (.int .u8 (rd l (k : Int))) = some (.int .u8 (rd l (k : Int))) := keyOf_int_mk Try.underlying5 hw2
      have hsn : (setD .u8 (l.take k)).put (.int .u8 (rd l (k : Int))) (.lit (.bool true)) = setD .u8 (l.take (k + 1)) := by
        rw [← setD_snoc]
        congr 1
        unfold rd
        rw [Int.toNat_natCast, List.getD_eq_getElem?_getD, List.getElem?_eq_getElem hlt, List.take_succ_eq_append_getElem hlt]; rfl
      have HSN := Aside0.mk hsn
      clear hsn hx hw2
      go_wp2_with (first
        | (at_mapUpdate; refine wpList_mapUpdate_own _ rfl _ _ _ 53 rfl 5 4 lawu8 Try.underlying53 _ w.heap.size k _ rfl hown (by unfold maxLen; omega) _ _ _ rfl rfl hkey _ [] (plainElem_bool Try.underlying4 _) ?_; intro w1 hown1 hgrow1)
        | go_in)
      go_roundw
      case rel => exact ⟨k + 1, by omega, by go_num, HSN.out ▸ hown1, hnx.grown hgrow1 hnx.size (fun j hj => by cases hj; exact Nat.le_refl _)⟩
      case measure => simp [intOf]; omega
    · go_wp2
      go_ret
      have : k = l.length := by omega
      subst this
      rw [List.take_length] at hown
      exact ⟨_, rfl, hown, hnx⟩

def publicL : List Int := [1, 2, 3, 4, 5, 6, 7, 8, 11, 12, 15, 16, 17, 20, 21, 22, 23, 24, 43]
set_option maxHeartbeats 800000 in
set_option maxRecDepth 100000 in
theorem public_any (c : Int) (w : World) (hc : (Lit.int .u8 c).wf = true) :
    Calls Try.prog 18 #[.int .u8 c] w fun e w' => e = .returned (.bool (publicL.contains c)) ∧ Below w.heap.size w w' := by
  have HW := Aside0.mk hc
  clear hc
  go_enter Try.func18, Try.ntmps18
  go_wp2_with (first
    | ((with_reducible refine gate_dst (N := 3) rfl ?_); (try (refine gate_guard (by rfl) ?_; dsimp only)); refine Kd.R_lit (Kd.int .u8) (w0 := w) w.heap.size 5 ?hg (N := 3) ?hd (xs := publicL) (inner := [.int .u8 1, .int .u8 2, .int .u8 3, .int .u8 4, .int .u8 5, .int .u8 6, .int .u8 7, .int .u8 8, .int .u8 11, .int .u8 12, .int .u8 15, .int .u8 16, .int .u8 17, .int .u8 20, .int .u8 21, .int .u8 22, .int .u8 23, .int .u8 24, .int .u8 43]) (ok := fun _ => True) (okp := fun _ => True) ?hr ?hp (fun _ hk => hk) trivial (Below.refl _ _) (Nat.le_refl _) (by decide) ?_; (case hd => rfl); (case hg => rfl); (case hr => first | (go_simp; done) | (go_simp; rfl)); (case hp => exact (Reps.one (show Kd.M (Kd.int .u8) _ _ _ 1 [.int .u8 1] from rfl) (Reps.one (show Kd.M (Kd.int .u8) _ _ _ 2 [.int .u8 2] from rfl) (Reps.one (show Kd.M (Kd.int .u8) _ _ _ 3 [.int .u8 3] from rfl) (Reps.one (show Kd.M (Kd.int .u8) _ _ _ 4 [.int .u8 4] from rfl) (Reps.one (show Kd.M (Kd.int .u8) _ _ _ 5 [.int .u8 5] from rfl) (Reps.one (show Kd.M (Kd.int .u8) _ _ _ 6 [.int .u8 6] from rfl) (Reps.one (show Kd.M (Kd.int .u8) _ _ _ 7 [.int .u8 7] from rfl) (Reps.one (show Kd.M (Kd.int .u8) _ _ _ 8 [.int .u8 8] from rfl) (Reps.one (show Kd.M (Kd.int .u8) _ _ _ 11 [.int .u8 11] from rfl) (Reps.one (show Kd.M (Kd.int .u8) _ _ _ 12 [.int .u8 12] from rfl) (Reps.one (show Kd.M (Kd.int .u8) _ _ _ 15 [.int .u8 15] from rfl) (Reps.one (show Kd.M (Kd.int .u8) _ _ _ 16 [.int .u8 16] from rfl) (Reps.one (show Kd.M (Kd.int .u8) _ _ _ 17 [.int .u8 17] from rfl) (Reps.one (show Kd.M (Kd.int .u8) _ _ _ 20 [.int .u8 20] from rfl) (Reps.one (show Kd.M (Kd.int .u8) _ _ _ 21 [.int .u8 21] from rfl) (Reps.one (show Kd.M (Kd.int .u8) _ _ _ 22 [.int .u8 22] from rfl) (Reps.one (show Kd.M (Kd.int .u8) _ _ _ 23 [.int .u8 23] from rfl) (Reps.one (show Kd.M (Kd.int .u8) _ _ _ 24 [.int .u8 24] from rfl) (Reps.one (show Kd.M (Kd.int .u8) _ _ _ 43 [.int .u8 43] from rfl) (Reps.none _ _))))))))))))))))))))); intro v1 w1 ho hb hg_ hnew_; clear hg_ hnew_; have HO := Aside0.mk ho; have HB := Aside0.mk hb; clear ho hb; obtain ⟨Ao, co, eo⟩ := Kd.R_slice HO.out; subst eo)
    | (go_at_call 25; (with_reducible refine (set_u8 Ao co publicL _ (Kd.R_reads' HO.out).2.2 (by decide) (by decide)).mono ?_); rintro e w2 ⟨b, rfl, hown, hb2⟩; have HB2 := Aside0.mk (below_step HB.out hb2); have hrun := look_u8 hown c HW.out; clear hb2 hown)
    | go_in)
  go_ret
  exact ⟨by first | rfl | (simp; done), HB2.out⟩

def failureL : List Int := [1, 2, 3, 4, 5, 6, 8, 10, 11]
set_option maxHeartbeats 800000 in
set_option maxRecDepth 100000 in
theorem failure_any (c : Int) (w : World) (hc : (Lit.int .u8 c).wf = true) :
    Calls Try.prog 19 #[.int .u8 c] w fun e w' => e = .returned (.bool (failureL.contains c)) ∧ Below w.heap.size w w' := by
  have HW := Aside0.mk hc
  clear hc
  go_enter Try.func19, Try.ntmps19
  go_wp2_with (first
    | ((with_reducible refine gate_dst (N := 3) rfl ?_); (try (refine gate_guard (by rfl) ?_; dsimp only)); refine Kd.R_lit (Kd.int .u8) (w0 := w) w.heap.size 5 ?hg (N := 3) ?hd (xs := failureL) (inner := [.int .u8 1, .int .u8 2, .int .u8 3, .int .u8 4, .int .u8 5, .int .u8 6, .int .u8 8, .int .u8 10, .int .u8 11]) (ok := fun _ => True) (okp := fun _ => True) ?hr ?hp (fun _ hk => hk) trivial (Below.refl _ _) (Nat.le_refl _) (by decide) ?_; (case hd => rfl); (case hg => rfl); (case hr => first | (go_simp; done) | (go_simp; rfl)); (case hp => exact (Reps.one (show Kd.M (Kd.int .u8) _ _ _ 1 [.int .u8 1] from rfl) (Reps.one (show Kd.M (Kd.int .u8) _ _ _ 2 [.int .u8 2] from rfl) (Reps.one (show Kd.M (Kd.int .u8) _ _ _ 3 [.int .u8 3] from rfl) (Reps.one (show Kd.M (Kd.int .u8) _ _ _ 4 [.int .u8 4] from rfl) (Reps.one (show Kd.M (Kd.int .u8) _ _ _ 5 [.int .u8 5] from rfl) (Reps.one (show Kd.M (Kd.int .u8) _ _ _ 6 [.int .u8 6] from rfl) (Reps.one (show Kd.M (Kd.int .u8) _ _ _ 8 [.int .u8 8] from rfl) (Reps.one (show Kd.M (Kd.int .u8) _ _ _ 10 [.int .u8 10] from rfl) (Reps.one (show Kd.M (Kd.int .u8) _ _ _ 11 [.int .u8 11] from rfl) (Reps.none _ _))))))))))); intro v1 w1 ho hb hg_ hnew_; clear hg_ hnew_; have HO := Aside0.mk ho; have HB := Aside0.mk hb; clear ho hb; obtain ⟨Ao, co, eo⟩ := Kd.R_slice HO.out; subst eo)
    | (go_at_call 25; (with_reducible refine (set_u8 Ao co failureL _ (Kd.R_reads' HO.out).2.2 (by decide) (by decide)).mono ?_); rintro e w2 ⟨b, rfl, hown, hb2⟩; have HB2 := Aside0.mk (below_step HB.out hb2); have hrun := look_u8 hown c HW.out; clear hb2 hown)
    | go_in)
  go_ret
  exact ⟨by first | rfl | (simp; done), HB2.out⟩

end Go.Proofs.Ytbilolgiihegiaa.Code
