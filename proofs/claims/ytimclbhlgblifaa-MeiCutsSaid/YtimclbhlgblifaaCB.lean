/- What the laws of this chapter rest on, part 2: what the functions that they reach answer, each shown once. Conditions: what each theorem states. (Merged by a program of this session, wip/tools/merge.py, out of its own texts.) -/
import Derived.Maps.OwnOps
import Derived.Maps.Views
import Derived.Deep.CutRange
import Derived.Test.YtimclbhlgblifaaCA
set_option linter.unusedVariables false
set_option linter.unusedSimpArgs false
section
namespace Go.Proofs.Ytimclbhlgblifaa.Same
open Go.RowKit Go.Proofs.Ytimclbhlgblifaa.P Go.Proofs.Ytimclbhlgblifaa.E Go.Proofs.YtimclbhlgblifaaW.PrintWords Go.Proofs.YtimclbhlgblifaaW.PrintLast Go.Proofs.YtimclbhlgblifaaW.PrintMore
theorem good_code {m : Msg} (h : goodM m) {v : Int} (hv : 0 ≤ v ∧ v < 256) : goodM { m with code := v } := by
  obtain ⟨h1, h2⟩ := h
  refine ⟨?_, h2⟩
  simp only [okM, u8B, u16B, Bool.and_eq_true, decide_eq_true_eq] at h1 ⊢
  simp only [h1, hv, and_self, true_and]
theorem set_code {W : World} {cx : Array Value} {m : Msg} (h : IsMsg W cx m) {v : Int} (hv : 0 ≤ v ∧ v < 256) : IsMsg W (cx.setIfInBounds 0 (.int .u8 v)) { m with code := v } := by
  obtain ⟨A12, c12, A13, c13, A14, c14, A15, c15, A21, c21, rfl, ok, h12, h13, h14, h15, h21⟩ := h
  exact ⟨A12, c12, A13, c13, A14, c14, A15, c15, A21, c21, by simp, good_code ok hv, h12, h13, h14, h15, h21⟩
theorem good_fail {m : Msg} (h : goodM m) {v : Int} (hv : 0 ≤ v ∧ v < 256) : goodM { m with fail := v } := by
  obtain ⟨h1, h2⟩ := h
  refine ⟨?_, h2⟩
  simp only [okM, u8B, u16B, Bool.and_eq_true, decide_eq_true_eq] at h1 ⊢
  simp only [h1, hv, and_self, true_and]
theorem good_mei {m : Msg} (h : goodM m) {v : Int} (hv : 0 ≤ v ∧ v < 256) : goodM { m with mei := v } := by
  obtain ⟨h1, h2⟩ := h
  refine ⟨?_, h2⟩
  simp only [okM, u8B, u16B, Bool.and_eq_true, decide_eq_true_eq] at h1 ⊢
  simp only [h1, hv, and_self, true_and]
theorem set_mei {W : World} {cx : Array Value} {m : Msg} (h : IsMsg W cx m) {v : Int} (hv : 0 ≤ v ∧ v < 256) : IsMsg W (cx.setIfInBounds 16 (.int .u8 v)) { m with mei := v } := by
  obtain ⟨A12, c12, A13, c13, A14, c14, A15, c15, A21, c21, rfl, ok, h12, h13, h14, h15, h21⟩ := h
  exact ⟨A12, c12, A13, c13, A14, c14, A15, c15, A21, c21, by simp, good_mei ok hv, h12, h13, h14, h15, h21⟩
theorem good_kind {m : Msg} (h : goodM m) {v : Int} (hv : 0 ≤ v ∧ v < 256) : goodM { m with kind := v } := by
  obtain ⟨h1, h2⟩ := h
  refine ⟨?_, h2⟩
  simp only [okM, u8B, u16B, Bool.and_eq_true, decide_eq_true_eq] at h1 ⊢
  simp only [h1, hv, and_self, true_and]
theorem set_kind {W : World} {cx : Array Value} {m : Msg} (h : IsMsg W cx m) {v : Int} (hv : 0 ≤ v ∧ v < 256) : IsMsg W (cx.setIfInBounds 17 (.int .u8 v)) { m with kind := v } := by
  obtain ⟨A12, c12, A13, c13, A14, c14, A15, c15, A21, c21, rfl, ok, h12, h13, h14, h15, h21⟩ := h
  exact ⟨A12, c12, A13, c13, A14, c14, A15, c15, A21, c21, by simp, good_kind ok hv, h12, h13, h14, h15, h21⟩
theorem good_level {m : Msg} (h : goodM m) {v : Int} (hv : 0 ≤ v ∧ v < 256) : goodM { m with level := v } := by
  obtain ⟨h1, h2⟩ := h
  refine ⟨?_, h2⟩
  simp only [okM, u8B, u16B, Bool.and_eq_true, decide_eq_true_eq] at h1 ⊢
  simp only [h1, hv, and_self, true_and]
theorem set_level {W : World} {cx : Array Value} {m : Msg} (h : IsMsg W cx m) {v : Int} (hv : 0 ≤ v ∧ v < 256) : IsMsg W (cx.setIfInBounds 18 (.int .u8 v)) { m with level := v } := by
  obtain ⟨A12, c12, A13, c13, A14, c14, A15, c15, A21, c21, rfl, ok, h12, h13, h14, h15, h21⟩ := h
  exact ⟨A12, c12, A13, c13, A14, c14, A15, c15, A21, c21, by simp, good_level ok hv, h12, h13, h14, h15, h21⟩
theorem good_more {m : Msg} (h : goodM m) {v : Int} (hv : 0 ≤ v ∧ v < 256) : goodM { m with more := v } := by
  obtain ⟨h1, h2⟩ := h
  refine ⟨?_, h2⟩
  simp only [okM, u8B, u16B, Bool.and_eq_true, decide_eq_true_eq] at h1 ⊢
  simp only [h1, hv, and_self, true_and]
theorem set_more {W : World} {cx : Array Value} {m : Msg} (h : IsMsg W cx m) {v : Int} (hv : 0 ≤ v ∧ v < 256) : IsMsg W (cx.setIfInBounds 19 (.int .u8 v)) { m with more := v } := by
  obtain ⟨A12, c12, A13, c13, A14, c14, A15, c15, A21, c21, rfl, ok, h12, h13, h14, h15, h21⟩ := h
  exact ⟨A12, c12, A13, c13, A14, c14, A15, c15, A21, c21, by simp, good_more ok hv, h12, h13, h14, h15, h21⟩
theorem good_next {m : Msg} (h : goodM m) {v : Int} (hv : 0 ≤ v ∧ v < 256) : goodM { m with next := v } := by
  obtain ⟨h1, h2⟩ := h
  refine ⟨?_, h2⟩
  simp only [okM, u8B, u16B, Bool.and_eq_true, decide_eq_true_eq] at h1 ⊢
  simp only [h1, hv, and_self, true_and]
theorem set_next {W : World} {cx : Array Value} {m : Msg} (h : IsMsg W cx m) {v : Int} (hv : 0 ≤ v ∧ v < 256) : IsMsg W (cx.setIfInBounds 20 (.int .u8 v)) { m with next := v } := by
  obtain ⟨A12, c12, A13, c13, A14, c14, A15, c15, A21, c21, rfl, ok, h12, h13, h14, h15, h21⟩ := h
  exact ⟨A12, c12, A13, c13, A14, c14, A15, c15, A21, c21, by simp, good_next ok hv, h12, h13, h14, h15, h21⟩
theorem good_data {m : Msg} (h : goodM m) {l : List Int} (hg : isBytes l) : goodM { m with data := l } := by
  obtain ⟨h1, h2⟩ := h
  refine ⟨?_, h2⟩
  simp only [okM, u8B, u16B, Bool.and_eq_true, decide_eq_true_eq, List.all_eq_true] at h1 ⊢
  exact ⟨⟨h1.1.1, fun x hx => hg x hx⟩, h1.2⟩
theorem set_data {W : World} {cx : Array Value} {m : Msg} (h : IsMsg W cx m) {A : Option Addr} {n : Nat} {l : List Int} (hn : l.length ≤ n) (hg : isBytes l) (hr : Kd.C (Kd.int .u8) W A l.length l) : IsMsg W (cx.setIfInBounds 14 (.slice A l.length n)) { m with data := l } := by
  obtain ⟨A12, c12, A13, c13, A14, c14, A15, c15, A21, c21, rfl, ok, h12, h13, h14, h15, h21⟩ := h
  exact ⟨A12, c12, A13, c13, A, n, A15, c15, A21, c21, by simp, good_data ok hg, h12, h13, ⟨hr, hn⟩, h15, h21⟩
def NilL (cx : Array Value) : Prop := ∀ (i : Nat) A n, (i = 15 ∨ i = 21) → cx[i]? = some (.slice A 0 n) → A = none ∧ n = 0
theorem NilL.set {cx : Array Value} (h : NilL cx) {i : Nat} (hi : i ≠ 15 ∧ i ≠ 21) {v : Value} : NilL (cx.setIfInBounds i v) := by
  intro j A n hj e
  refine h j A n hj ?_
  rwa [Array.getElem?_setIfInBounds_ne (by omega)] at e
theorem NilL.put {cx : Array Value} (h : NilL cx) {i : Nat} {v : Value} (hv : ∀ A n, v = .slice A 0 n → A = none ∧ n = 0) : NilL (cx.setIfInBounds i v) := by
  intro j A n hj e
  by_cases hij : i = j
  · subst hij
    rw [Array.getElem?_setIfInBounds_self] at e
    split at e
    · exact hv A n (Option.some.inj e)
    · cases e
  · exact h j A n hj (by rwa [Array.getElem?_setIfInBounds_ne hij] at e)
def Zip {α β : Type} (R : α → β → Prop) (l : List α) (k : List β) : Prop := l.length = k.length ∧ ∀ (j : Nat) a b, l[j]? = some a → k[j]? = some b → R a b
theorem Zip.nil {α β : Type} (R : α → β → Prop) : Zip R [] [] := ⟨rfl, fun j a b h => by simp at h⟩
theorem Zip.imp {α β : Type} {R R' : α → β → Prop} {l : List α} {k : List β} (h : Zip R l k) (hi : ∀ a b, R a b → R' a b) : Zip R' l k := ⟨h.1, fun j a b ha hb => hi a b (h.2 j a b ha hb)⟩
theorem Zip.get {α β : Type} {R : α → β → Prop} {l : List α} {k : List β} (h : Zip R l k) {j : Nat} (hj : j < l.length) (hj' : j < k.length) : R l[j] k[j] := h.2 j _ _ (List.getElem?_eq_getElem hj) (List.getElem?_eq_getElem hj')
theorem Zip.mem {α β : Type} {R : α → β → Prop} {l : List α} {k : List β} (h : Zip R l k) : ∀ b ∈ k, ∃ a, R a b := fun b hb => by
  obtain ⟨j, hj, rfl⟩ := List.mem_iff_getElem.1 hb
  have hl := h.1
  exact ⟨_, h.get (show j < l.length by omega) hj⟩
theorem Zip.snoc {α β : Type} {R : α → β → Prop} {l : List α} {k : List β} (h : Zip R l k) {a : α} {b : β} (hab : R a b) : Zip R (l ++ [a]) (k ++ [b]) := by
  refine ⟨by simp [h.1], fun j x y hx hy => ?_⟩
  have hl := h.1
  by_cases hj : j < l.length
  · rw [List.getElem?_append_left hj] at hx
    rw [List.getElem?_append_left (by omega)] at hy
    exact h.2 j x y hx hy
  · rw [List.getElem?_append_right (by omega)] at hx
    rw [List.getElem?_append_right (by omega)] at hy
    have e : j - l.length = 0 := by
      by_cases h0 : j - l.length = 0
      · exact h0
      · rw [List.getElem?_eq_none (by simp; omega)] at hx; cases hx
    have e2 : j - k.length = 0 := by omega
    rw [e] at hx
    rw [e2] at hy
    simp at hx hy
    subst hx
    subst hy
    exact hab
end Go.Proofs.Ytimclbhlgblifaa.Same
end
section
namespace Go.Proofs.Ytimclbhlgblifaa.PS
open Go.RowKit Go.Proofs.Ytimclbhlgblifaa.P Go.Proofs.Ytimclbhlgblifaa.E Go.Proofs.Ytimclbhlgblifaa.Cur Go.Proofs.Ytimclbhlgblifaa.RCur Go.Proofs.Ytimclbhlgblifaa.Cu Go.Proofs.Ytimclbhlgblifaa.Same Go.Proofs.YtimclbhlgblifaaW.PrintWords Go.Proofs.YtimclbhlgblifaaW.PrintLast Go.Proofs.YtimclbhlgblifaaW.PrintMore
structure St (w0 : World) (gr g gm : Nat) (w : World) (c : Cu) (m : Msg) : Prop where
  b : Below w0.heap.size w0 w
  cur : ∃ lo hi, PAt lo hi w g c ∧ (gm < lo ∨ hi ≤ gm) ∧ (gr < lo ∨ hi ≤ gr)
  cx : ∃ cx, w.heap[gm]? = some (.cells cx 30 (0, 0)) ∧ ∀ W', Kept w W' (fun k => k = g ∨ k = gm ∨ k = gr) → IsMsg W' cx m
  res : w.heap[gr]? = some (.cells zeroC 30 (0, 0))
  h1 : w0.heap.size ≤ g ∧ w0.heap.size ≤ gm ∧ w0.heap.size ≤ gr
  h2 : gm ≠ g ∧ gr ≠ g ∧ gr ≠ gm
  nl : ∃ cx, w.heap[gm]? = some (.cells cx 30 (0, 0)) ∧ NilL cx
section
variable {w0 w w' : World} {gr g gm : Nat} {c c' : Cu} {m m' : Msg}
theorem St.upd (h : St w0 gr g gm w c m) (k : Upd g w w') (hc : ∃ lo hi, PAt lo hi w' g c' ∧ (gm < lo ∨ hi ≤ gm) ∧ (gr < lo ∨ hi ≤ gr)) : St w0 gr g gm w' c' m := by
  obtain ⟨cx, a1, a2⟩ := h.cx
  refine ⟨h.b.trans (k.below h.h1.1 h.b.size), hc, ⟨cx, blk_kept a1 k.kept h.h2.1, fun W' hk => a2 W' ((k.kept.mono fun j hj => .inl hj).then_ hk (fun j hj => .inl hj))⟩, blk_kept h.res k.kept h.h2.2.1, h.h1, h.h2, by obtain ⟨cy, n1, n2⟩ := h.nl; exact ⟨cy, blk_kept n1 k.kept h.h2.1, n2⟩⟩
theorem St.good (h : St w0 gr g gm w c m) : c.good := by
  obtain ⟨lo, hi, a, _⟩ := h.cur
  exact a.2
theorem St.msg (h : St w0 gr g gm w c m) : goodM m := by
  obtain ⟨cx, a1, a2⟩ := h.cx
  exact (a2 w (Kept.refl _ _)).good
theorem St.below (h : St w0 gr g gm w c m) (hb : Below w.heap.size w w') : St w0 gr g gm w' c m := by
  obtain ⟨cx, a1, a2⟩ := h.cx
  refine ⟨h.b.trans (hb.mono h.b.size), ?_, ⟨cx, blk_below a1 hb, fun W' hk => a2 W' ((Kept.of_below hb _).then_ hk (fun j hj => .inl hj))⟩, blk_below h.res hb, h.h1, h.h2, by obtain ⟨cy, n1, n2⟩ := h.nl; exact ⟨cy, blk_below n1 hb, n2⟩⟩
  obtain ⟨lo, hi, a, s1, s2⟩ := h.cur
  exact ⟨lo, hi, a.below hb, s1, s2⟩
theorem St.byte (h : St w0 gr g gm w c m) : Calls Try.prog 20 #[.pointer (some ⟨g, 0, none⟩)] w fun en w' => en = .returned (.int .u8 c.byteV) ∧ St w0 gr g gm w' c.byteS m := by
  obtain ⟨lo, hi, hc, s1, s2⟩ := h.cur
  refine (p_byte hc).mono ?_
  rintro en w' ⟨rfl, b1, b2⟩
  exact ⟨rfl, h.upd b2 ⟨lo, hi, b1, s1, s2⟩⟩
theorem St.bytes (h : St w0 gr g gm w c m) (n : Int) : Calls Try.prog 23 #[.pointer (some ⟨g, 0, none⟩), .int .i64 n] w fun en w' => ∃ A' c', en = .returned (.slice A' (c.bytesV n).length c') ∧ (c.bytesV n).length ≤ c' ∧ (∀ W', Kept w' W' (fun k => k = g ∨ k = gm ∨ k = gr) → Kd.C (Kd.int .u8) W' A' (c.bytesV n).length (c.bytesV n)) ∧ St w0 gr g gm w' (c.bytesS n) m := by
  obtain ⟨cx, a1, a2⟩ := h.cx
  have lm := blk_lt a1
  have lr := blk_lt h.res
  obtain ⟨lo, hi, hc, s1, s2⟩ := h.cur
  refine (p_bytes hc n).mono ?_
  rintro en w' ⟨A', c', rfl, b1, b2, b3, b4⟩
  refine ⟨A', c', rfl, b1, fun W' hk => (b2.on (hk.mono fun j hj => ?_)).now, h.upd b4 ⟨lo, hi, b3, s1, s2⟩⟩
  have lg := hc.1.lt
  rcases hj with rfl | rfl | rfl <;> exact .inl (by omega)
theorem St.need (h : St w0 gr g gm w c m) (ok : Bool) (f : Int) : Calls Try.prog 21 #[.pointer (some ⟨g, 0, none⟩), .bool ok, .int .i64 f] w fun en w' => en = .returned (.tuple #[]) ∧ St w0 gr g gm w' (c.need ok f) m := by
  obtain ⟨lo, hi, hc, s1, s2⟩ := h.cur
  refine (p_need hc ok f).mono ?_
  rintro en w' ⟨rfl, b1, b2⟩
  exact ⟨rfl, h.upd b2 ⟨lo, hi, b1, s1, s2⟩⟩
theorem St.fin (h : St w0 gr g gm w c m) : Calls Try.prog 25 #[.pointer (some ⟨g, 0, none⟩)] w fun en w' => en = .returned (.tuple #[]) ∧ St w0 gr g gm w' c.fin m := by
  obtain ⟨lo, hi, hc, s1, s2⟩ := h.cur
  refine (p_end hc).mono ?_
  rintro en w' ⟨rfl, b1, b2⟩
  exact ⟨rfl, h.upd b2 ⟨lo, hi, b1, s1, s2⟩⟩
theorem St.left (h : St w0 gr g gm w c m) : Calls Try.prog 22 #[.pointer (some ⟨g, 0, none⟩)] w fun en w' => en = .returned (.int .i64 c.xs.length) ∧ St w0 gr g gm w' c m := by
  obtain ⟨lo, hi, hc, s1, s2⟩ := h.cur
  refine (p_left hc).mono ?_
  rintro en w' ⟨rfl, rfl⟩
  exact ⟨rfl, h⟩
theorem St.err (h : St w0 gr g gm w c m) : Calls Try.prog 26 #[.pointer (some ⟨g, 0, none⟩)] w fun en w' => en = .returned (.int .i64 c.e) ∧ St w0 gr g gm w' c m := by
  obtain ⟨lo, hi, hc, s1, s2⟩ := h.cur
  refine (p_err hc).mono ?_
  rintro en w' ⟨rfl, rfl⟩
  exact ⟨rfl, h⟩
theorem St.put (h : St w0 gr g gm w c m) (i : Nat) (v : Value) (hi : i ≠ 15 ∧ i ≠ 21) (hm : ∀ W' cx, Kept w W' (fun k => k = g ∨ k = gm ∨ k = gr) → IsMsg W' cx m → IsMsg W' (cx.setIfInBounds i v) m') : St w0 gr g gm (w.setCell ⟨gm, i, none⟩ v) c m' := by
  obtain ⟨cx, a1, a2⟩ := h.cx
  have hk : Kept w (w.setCell ⟨gm, i, none⟩ v) (fun k => k = gm) := (Kept.refl w (fun k => k = gm)).setCell (p := ⟨gm, i, none⟩) (.inl rfl) v
  refine ⟨below_set h.b h.h1.2.1, ?_, ⟨_, blk_put a1 i v rfl, fun W' k => ?_⟩, blk_kept h.res hk h.h2.2.2, h.h1, h.h2, by obtain ⟨cy, n1, n2⟩ := h.nl; exact ⟨_, blk_put n1 i v rfl, n2.set hi⟩⟩
  · obtain ⟨lo, hi, a, s1, s2⟩ := h.cur
    exact ⟨lo, hi, a.on hk (fun k e => by rw [e]; exact s1) (fun e => h.h2.1 e.symm), s1, s2⟩
  · have k2 : Kept w W' (fun k => k = g ∨ k = gm ∨ k = gr) := (hk.mono fun j hj => .inr (.inl hj)).then_ k (fun j hj => .inl hj)
    exact hm W' cx k2 (a2 W' k2)
theorem St.put_kind (h : St w0 gr g gm w c m) {v : Int} (hv : 0 ≤ v ∧ v < 256) : St w0 gr g gm (w.setCell ⟨gm, 17, none⟩ (.int .u8 v)) c { m with kind := v } :=
  h.put 17 _ (by decide) fun W' cx _ hm => set_kind hm hv
theorem St.put_level (h : St w0 gr g gm w c m) {v : Int} (hv : 0 ≤ v ∧ v < 256) : St w0 gr g gm (w.setCell ⟨gm, 18, none⟩ (.int .u8 v)) c { m with level := v } :=
  h.put 18 _ (by decide) fun W' cx _ hm => set_level hm hv
theorem St.put_more (h : St w0 gr g gm w c m) {v : Int} (hv : 0 ≤ v ∧ v < 256) : St w0 gr g gm (w.setCell ⟨gm, 19, none⟩ (.int .u8 v)) c { m with more := v } :=
  h.put 19 _ (by decide) fun W' cx _ hm => set_more hm hv
theorem St.put_next (h : St w0 gr g gm w c m) {v : Int} (hv : 0 ≤ v ∧ v < 256) : St w0 gr g gm (w.setCell ⟨gm, 20, none⟩ (.int .u8 v)) c { m with next := v } :=
  h.put 20 _ (by decide) fun W' cx _ hm => set_next hm hv
theorem St.put_data (h : St w0 gr g gm w c m) {A : Option Addr} {n : Nat} {l : List Int} (hn : l.length ≤ n) (hg : isBytes l) (hr : ∀ W', Kept w W' (fun k => k = g ∨ k = gm ∨ k = gr) → Kd.C (Kd.int .u8) W' A l.length l) : St w0 gr g gm (w.setCell ⟨gm, 14, none⟩ (.slice A l.length n)) c { m with data := l } :=
  h.put 14 _ (by decide) fun W' cx k hm => set_data hm hn hg (hr W' k)
theorem St.at_mei (h : St w0 gr g gm w c m) : w.cell? ⟨gm, 16, none⟩ = some (.int .u8 m.mei) ∧ w.frozen? ⟨gm, 16, none⟩ = false := by
  obtain ⟨cx, a1, a2⟩ := h.cx
  exact ⟨bx_mei a1 (a2 w (Kept.refl _ _)), blk_frozen a1 16⟩
theorem St.at_kind (h : St w0 gr g gm w c m) : w.cell? ⟨gm, 17, none⟩ = some (.int .u8 m.kind) ∧ w.frozen? ⟨gm, 17, none⟩ = false := by
  obtain ⟨cx, a1, a2⟩ := h.cx
  exact ⟨bx_kind a1 (a2 w (Kept.refl _ _)), blk_frozen a1 17⟩
theorem St.at_level (h : St w0 gr g gm w c m) : w.cell? ⟨gm, 18, none⟩ = some (.int .u8 m.level) ∧ w.frozen? ⟨gm, 18, none⟩ = false := by
  obtain ⟨cx, a1, a2⟩ := h.cx
  exact ⟨bx_level a1 (a2 w (Kept.refl _ _)), blk_frozen a1 18⟩
theorem St.at_more (h : St w0 gr g gm w c m) : w.cell? ⟨gm, 19, none⟩ = some (.int .u8 m.more) ∧ w.frozen? ⟨gm, 19, none⟩ = false := by
  obtain ⟨cx, a1, a2⟩ := h.cx
  exact ⟨bx_more a1 (a2 w (Kept.refl _ _)), blk_frozen a1 19⟩
theorem St.at_next (h : St w0 gr g gm w c m) : w.cell? ⟨gm, 20, none⟩ = some (.int .u8 m.next) ∧ w.frozen? ⟨gm, 20, none⟩ = false := by
  obtain ⟨cx, a1, a2⟩ := h.cx
  exact ⟨bx_next a1 (a2 w (Kept.refl _ _)), blk_frozen a1 20⟩
theorem St.at_data (h : St w0 gr g gm w c m) : ∃ A n, w.cell? ⟨gm, 14, none⟩ = some (.slice A m.data.length n) ∧ w.frozen? ⟨gm, 14, none⟩ = false := by
  obtain ⟨cx, a1, a2⟩ := h.cx
  obtain ⟨A12, c12, A13, c13, A14, c14, A15, c15, A21, c21, l, _⟩ := (a2 w (Kept.refl _ _)).lists
  exact ⟨A14, c14, (blk_cell a1 14).trans l.2.2.1, blk_frozen a1 14⟩
theorem St.row (h : St w0 gr g gm w c m) : ∃ cx, w.heap[gm]? = some (.cells cx 30 (0, 0)) ∧ IsMsg w cx m ∧ ∀ w', w'.heap[gr]? = some (.cells cx 30 (0, 0)) → Up1 gr w w' → IsMsg w' cx m ∧ Below w0.heap.size w0 w' := by
  obtain ⟨cx, a1, a2⟩ := h.cx
  exact ⟨cx, a1, a2 w (Kept.refl _ _), fun w' _ hu => ⟨a2 w' (hu.kept.mono fun j hj => .inr (.inr hj)), h.b.trans (hu.below h.h1.2.2 h.b.size)⟩⟩
theorem St.held (h : St w0 gr g gm w c m) : Held w0 [(gr, zeroC)] w := ⟨h.b, fun p hp => by obtain rfl := List.mem_singleton.1 hp; exact ⟨h.h1.2.2, h.res⟩, List.pairwise_singleton _ _⟩
theorem St.held2 (h : St w0 gr g gm w c m) : ∃ cx, Held w0 [(gr, zeroC), (gm, cx)] w ∧ cx.size = 22 ∧ ∀ w', Up1 gr w w' → IsMsg w' cx m := by
  obtain ⟨cx, a1, a2⟩ := h.cx
  refine ⟨cx, ⟨h.b, fun p hp => ?_, ?_⟩, (a2 w (Kept.refl _ _)).size, fun w' hu => a2 w' (hu.kept.mono fun j hj => .inr (.inr hj))⟩
  · rcases List.mem_cons.1 hp with rfl | hp
    · exact ⟨h.h1.2.2, h.res⟩
    · obtain rfl := List.mem_singleton.1 hp
      exact ⟨h.h1.2.1, a1⟩
  · refine List.pairwise_cons.2 ⟨fun q hq => ?_, List.pairwise_singleton _ _⟩
    obtain rfl := List.mem_singleton.1 hq
    exact h.h2.2.2
end
theorem zero_nil : NilL zeroC := by
  intro i A n hi e
  rcases hi with rfl | rfl <;> exact ⟨(Value.slice.inj (Option.some.inj e)).1.symm, (Value.slice.inj (Option.some.inj e)).2.2.symm⟩
structure Nw (w0 : World) (gr g : Nat) (w : World) (c : Cu) : Prop where
  b : Below w0.heap.size w0 w
  cur : ∃ lo, PAt lo g w g c ∧ gr < lo
  res : w.heap[gr]? = some (.cells zeroC 30 (0, 0))
  h1 : w0.heap.size ≤ g ∧ w0.heap.size ≤ gr
theorem Nw.good {w0 w : World} {gr g : Nat} {c : Cu} (h : Nw w0 gr g w c) : c.good := by
  obtain ⟨lo, a, _⟩ := h.cur
  exact a.2
theorem Nw.first {w0 w1 w : World} {gr g : Nat} {c : Cu} (hg : gr = w0.heap.size) (hk : w1.heap[gr]? = some (.cells zeroC 30 (0, 0))) (hb : Below w0.heap.size w0 w1) (h1 : w1.heap.size ≤ g) (hc : PAt w1.heap.size g w g c) (h2 : Below w1.heap.size w1 w) : Nw w0 gr g w c :=
  ⟨hb.trans (h2.mono hb.size), ⟨_, hc, blk_lt hk⟩, blk_below hk h2, Nat.le_trans hb.size h1, by omega⟩
theorem Nw.byte {w0 w : World} {gr g : Nat} {c : Cu} (h : Nw w0 gr g w c) : Calls Try.prog 20 #[.pointer (some ⟨g, 0, none⟩)] w fun en w' => en = .returned (.int .u8 c.byteV) ∧ Nw w0 gr g w' c.byteS := by
  obtain ⟨lo, hc, s1⟩ := h.cur
  refine (p_byte hc).mono ?_
  rintro en w' ⟨rfl, b1, b2⟩
  have hlg : gr ≠ g := fun e => by
    obtain ⟨⟨h2, A, n, h3, h4, h5⟩, _⟩ := hc
    have := h.res
    rw [e, h3] at this
    injection this with this
    injection this with _ this _
    exact absurd this (by decide)
  exact ⟨rfl, h.b.trans (b2.below h.h1.1 h.b.size), ⟨lo, b1, s1⟩, blk_kept h.res b2.kept hlg, h.h1⟩
theorem Nw.new {w0 w w' : World} {gr g gm : Nat} {c : Cu} {m : Msg} {cx : Array Value} (h : Nw w0 gr g w c) (hg : gm = w.heap.size) (hk : w'.heap[gm]? = some (.cells cx 30 (0, 0))) (hb : Below w.heap.size w w') (M : ∀ W, IsMsg W cx m) (nl : NilL cx) : St w0 gr g gm w' c m := by
  obtain ⟨lo, hc, s1⟩ := h.cur
  have lg := hc.1.lt
  have lr := blk_lt h.res
  have hlg : gr ≠ g := fun e => by
    obtain ⟨⟨h2, A, n, h3, h4, h5⟩, _⟩ := hc
    have := h.res
    rw [e, h3] at this
    injection this with this
    injection this with _ this _
    exact absurd this (by decide)
  exact ⟨h.b.trans (hb.mono h.b.size), ⟨lo, g, hc.below hb, .inr (by omega), .inl s1⟩, ⟨cx, hk, fun W' _ => M W'⟩, blk_below h.res hb, ⟨h.h1.1, by have := h.b.size; omega, h.h1.2⟩, ⟨by omega, hlg, by omega⟩, ⟨cx, hk, nl⟩⟩
end Go.Proofs.Ytimclbhlgblifaa.PS
end
section
namespace Go.Proofs.Ytimclbhlgblifaa.Same
open Go.RowKit Go.Proofs.Ytimclbhlgblifaa.P Go.Proofs.Ytimclbhlgblifaa.E Go.Proofs.Ytimclbhlgblifaa.Same Go.Proofs.YtimclbhlgblifaaW.PrintWords Go.Proofs.YtimclbhlgblifaaW.PrintLast Go.Proofs.YtimclbhlgblifaaW.PrintMore
structure RawO where
  f0 : Int
  A : Option Addr
  n : Nat
  c : Nat
def kRawO : Kd RawO where
  sz := 2
  E := []
  K := fun _ x cs => cs = [.int .u8 x.f0, .slice x.A x.n x.c]
  M := fun _ _ _ x cs => cs = [.int .u8 x.f0, .slice x.A x.n x.c]
  K_len := fun h => by rw [h]; rfl
  K_one := fun h u hu => by
    rw [h] at hu
    simp only [List.mem_cons, List.not_mem_nil, or_false] at hu
    rcases hu with rfl | rfl <;> rfl
  K_below := fun _ h => h
  K_of_M := fun h => h
  M_mono := fun _ h => h
  M_bound := fun h => h
  M_move := fun _ h => h
  M_lower := fun _ h => h
def FitsO (W : World) (r : RawO) (o : S43) : Prop := r.f0 = o.f0 ∧ r.n = o.f1.length ∧ o.f1.length ≤ r.c ∧ Kd.C (Kd.int .u8) W r.A o.f1.length o.f1
def goodO (o : S43) : Prop := (0 ≤ o.f0 ∧ o.f0 < 256) ∧ isBytes o.f1
theorem zipO_C {W : World} {A : Option Addr} {n : Nat} {raws : List RawO} {os : List S43} (h : Kd.C kRawO W A n raws) (z : Zip (FitsO W) raws os) : Kd.C k43 W A n os := by
  obtain ⟨h1, h2, h3⟩ := h
  have hl := z.1
  refine ⟨by rw [← hl]; exact h1, h2, fun hn => ?_⟩
  obtain ⟨ad, e, hc⟩ := h3 hn
  refine ⟨ad, e, fun j p hp => ?_⟩
  obtain ⟨hj, rfl⟩ := List.getElem?_eq_some_iff.1 hp
  have hj' : j < raws.length := by rw [hl]; exact hj
  obtain ⟨c, hc1, hc2, hc3⟩ := hc j raws[j] (List.getElem?_eq_getElem hj')
  have hf : FitsO W raws[j] os[j] := z.get hj' hj
  obtain ⟨e1f0, e2, e3, e4⟩ := hf
  refine ⟨c, hc1, ?_, hc3⟩
  rw [show c = [.int .u8 raws[j].f0, .slice raws[j].A raws[j].n raws[j].c] from hc2, e1f0, e2]
  exact k43_mk W _ e3 e4
theorem set_objects {W : World} {cx : Array Value} {m : Msg} (h : IsMsg W cx m) {A : Option Addr} {n : Nat} {l : List S43} (hn : l.length ≤ n) (hg : ∀ o ∈ l, goodO o) (hr : Kd.C k43 W A l.length l) : IsMsg W (cx.setIfInBounds 21 (.slice A l.length n)) { m with objects := l } := by
  obtain ⟨A12, c12, A13, c13, A14, c14, A15, c15, A21, c21, rfl, ok, h12, h13, h14, h15, h21⟩ := h
  refine ⟨A12, c12, A13, c13, A14, c14, A15, c15, A, n, by simp, ?_, h12, h13, h14, h15, ⟨hr, hn⟩⟩
  obtain ⟨ok1, ok2, ok3, ok4⟩ := ok
  refine ⟨?_, ok2, ok3, fun o ho => (hg o ho).1⟩
  simp only [okM, u8B, u16B, Bool.and_eq_true, decide_eq_true_eq, List.all_eq_true] at ok1 ⊢
  exact ⟨ok1.1, fun o ho x hx => (hg o ho).2 x hx⟩
end Go.Proofs.Ytimclbhlgblifaa.Same
end
section
namespace Go.Proofs.Ytimclbhlgblifaa.PS
open Go.RowKit Go.Proofs.Ytimclbhlgblifaa.P Go.Proofs.Ytimclbhlgblifaa.E Go.Proofs.Ytimclbhlgblifaa.Cur Go.Proofs.Ytimclbhlgblifaa.RCur Go.Proofs.Ytimclbhlgblifaa.Cu Go.Proofs.Ytimclbhlgblifaa.Same Go.Proofs.YtimclbhlgblifaaW.PrintWords Go.Proofs.YtimclbhlgblifaaW.PrintLast Go.Proofs.YtimclbhlgblifaaW.PrintMore
structure StO (w0 : World) (gr g gm B1 : Nat) (w : World) (c : Cu) (m : Msg) (raws : List RawO) (os : List S43) (v : Value) : Prop where
  b : Below w0.heap.size w0 w
  cur : ∃ lo hi, PAt lo hi w g c ∧ (gm < lo ∨ hi ≤ gm) ∧ (gr < lo ∨ hi ≤ gr)
  cx : ∃ cx, w.heap[gm]? = some (.cells (cx.setIfInBounds 21 v) 30 (0, 0)) ∧ ∀ W', Kept w W' (fun k => k = g ∨ k = gm ∨ k = gr ∨ v.ownBlock = some k) → IsMsg W' cx m
  res : w.heap[gr]? = some (.cells zeroC 30 (0, 0))
  h1 : w0.heap.size ≤ g ∧ w0.heap.size ≤ gm ∧ w0.heap.size ≤ gr
  h2 : gm ≠ g ∧ gr ≠ g ∧ gr ≠ gm
  h3 : g < B1 ∧ gm < B1 ∧ gr < B1 ∧ B1 ≤ w.heap.size
  row : Kd.R kRawO 43 w w0.heap.size (fun k => B1 ≤ k) v raws
  zip : Zip (fun r o => goodO o ∧ ∀ W', Kept w W' (fun k => k = g ∨ k = gm ∨ k = gr ∨ v.ownBlock = some k) → FitsO W' r o) raws os
  nl : ∃ cx, w.heap[gm]? = some (.cells cx 30 (0, 0)) ∧ NilL cx
  nv : raws = [] → v = .slice none 0 0
section
variable {w0 w w' : World} {gr g gm B1 : Nat} {c c' : Cu} {m m' : Msg} {raws : List RawO} {os : List S43} {v : Value}
theorem own_ne {k : Nat} (h : Kd.R kRawO 43 w w0.heap.size (fun k => B1 ≤ k) v raws) (hk : k < B1) : v.ownBlock ≠ some k := fun e => by have := h.1 k e; omega
theorem StO.start (h : St w0 gr g gm w c m) (he : m.objects = []) : StO w0 gr g gm w.heap.size w c m [] [] (.slice none 0 0) := by
  obtain ⟨cx, a1, a2⟩ := h.cx
  obtain ⟨cy, n1, n2⟩ := h.nl
  have e0 : cy = cx := by
    rw [a1] at n1
    injection n1 with n1
    injection n1 with n1 _ _
    exact n1.symm
  subst e0
  obtain ⟨A12, c12, A13, c13, A14, c14, A15, c15, A21, c21, l, _⟩ := (a2 w (Kept.refl _ _)).lists
  have lc : cy[21]? = some (.slice A21 m.objects.length c21) := l.2.2.2.2
  have hs := (a2 w (Kept.refl _ _)).size
  rw [he] at lc
  obtain ⟨rfl, rfl⟩ := n2 21 _ _ (by decide) lc
  have e1 : cy.setIfInBounds 21 (.slice none 0 0) = cy := by
    apply Array.ext_getElem?
    intro i
    by_cases hi : 21 = i
    · subst hi
      rw [lc]
      simp [hs]
    · rw [Array.getElem?_setIfInBounds_ne hi]
  refine ⟨h.b, h.cur, ⟨cy, by rw [e1]; exact a1, fun W' hk => a2 W' (hk.mono fun j hj => ?_)⟩, h.res, h.h1, h.h2, ⟨(by obtain ⟨lo, hi, a, _⟩ := h.cur; exact a.1.lt), blk_lt a1, blk_lt h.res, Nat.le_refl _⟩, Kd.R_nil _ _ _ _ _, Zip.nil _, ⟨cy, a1, n2⟩, fun _ => rfl⟩
  rcases hj with hj | hj | hj | hj
  · exact .inl hj
  · exact .inr (.inl hj)
  · exact .inr (.inr hj)
  · simp [Value.ownBlock] at hj
theorem StO.upd (h : StO w0 gr g gm B1 w c m raws os v) (k : Upd g w w') (hc : ∃ lo hi, PAt lo hi w' g c' ∧ (gm < lo ∨ hi ≤ gm) ∧ (gr < lo ∨ hi ≤ gr)) : StO w0 gr g gm B1 w' c' m raws os v := by
  obtain ⟨cx, a1, a2⟩ := h.cx
  have kk : Kept w w' (fun k => k = g ∨ k = gm ∨ k = gr ∨ v.ownBlock = some k) := k.kept.mono fun j hj => .inl hj
  refine ⟨h.b.trans (k.below h.h1.1 h.b.size), hc, ⟨cx, blk_kept a1 k.kept h.h2.1, fun W' hk => a2 W' (kk.then_ hk (fun j hj => .inl hj))⟩, blk_kept h.res k.kept h.h2.2.1, h.h1, h.h2, ⟨h.h3.1, h.h3.2.1, h.h3.2.2.1, Nat.le_trans h.h3.2.2.2 k.kept.1⟩, ?_, h.zip.imp fun _ _ hz => ⟨hz.1, fun W' hk => hz.2 W' (kk.then_ hk (fun j hj => .inl hj))⟩, by obtain ⟨cy, n1, n2⟩ := h.nl; exact ⟨cy, blk_kept n1 k.kept h.h2.1, n2⟩, h.nv⟩
  refine Kd.R_mono (Kd.R_move (Kd.R_bound h.row) fun j hj => k.kept.2 j hj.2.2.1 fun e => ?_) fun j hj => hj.1
  have := hj.1
  have := h.h3.1
  omega
theorem StO.good (h : StO w0 gr g gm B1 w c m raws os v) : c.good := by
  obtain ⟨lo, hi, a, _⟩ := h.cur
  exact a.2
theorem StO.byte (h : StO w0 gr g gm B1 w c m raws os v) : Calls Try.prog 20 #[.pointer (some ⟨g, 0, none⟩)] w fun en w' => en = .returned (.int .u8 c.byteV) ∧ StO w0 gr g gm B1 w' c.byteS m raws os v := by
  obtain ⟨lo, hi, hc, s1, s2⟩ := h.cur
  refine (p_byte hc).mono ?_
  rintro en w' ⟨rfl, b1, b2⟩
  exact ⟨rfl, h.upd b2 ⟨lo, hi, b1, s1, s2⟩⟩
theorem StO.bytes (h : StO w0 gr g gm B1 w c m raws os v) (n : Int) : Calls Try.prog 23 #[.pointer (some ⟨g, 0, none⟩), .int .i64 n] w fun en w' => ∃ A' c', en = .returned (.slice A' (c.bytesV n).length c') ∧ (c.bytesV n).length ≤ c' ∧ (∀ W', Kept w' W' (fun k => k = g ∨ k = gm ∨ k = gr ∨ v.ownBlock = some k) → Kd.C (Kd.int .u8) W' A' (c.bytesV n).length (c.bytesV n)) ∧ StO w0 gr g gm B1 w' (c.bytesS n) m raws os v := by
  obtain ⟨cx, a1, a2⟩ := h.cx
  have lm := blk_lt a1
  have lr := blk_lt h.res
  have lv : ∀ k, v.ownBlock = some k → k < w.heap.size ∧ B1 ≤ k := fun k hk => by have := (Kd.R_bound h.row).1 k hk; exact ⟨this.2.2.1, this.1⟩
  obtain ⟨lo, hi, hc, s1, s2⟩ := h.cur
  refine (p_bytes hc n).mono ?_
  rintro en w' ⟨A', c', rfl, b1, b2, b3, b4⟩
  refine ⟨A', c', rfl, b1, fun W' hk => (b2.on (hk.mono fun j hj => ?_)).now, h.upd b4 ⟨lo, hi, b3, s1, s2⟩⟩
  have lg := hc.1.lt
  rcases hj with rfl | rfl | rfl | hj
  · exact .inl (by omega)
  · exact .inl (by omega)
  · exact .inl (by omega)
  · exact .inl (lv j hj).1
theorem StO.need (h : StO w0 gr g gm B1 w c m raws os v) (ok : Bool) (f : Int) : Calls Try.prog 21 #[.pointer (some ⟨g, 0, none⟩), .bool ok, .int .i64 f] w fun en w' => en = .returned (.tuple #[]) ∧ StO w0 gr g gm B1 w' (c.need ok f) m raws os v := by
  obtain ⟨lo, hi, hc, s1, s2⟩ := h.cur
  refine (p_need hc ok f).mono ?_
  rintro en w' ⟨rfl, b1, b2⟩
  exact ⟨rfl, h.upd b2 ⟨lo, hi, b1, s1, s2⟩⟩
theorem StO.at_list (h : StO w0 gr g gm B1 w c m raws os v) : w.cell? ⟨gm, 21, none⟩ = some v ∧ w.frozen? ⟨gm, 21, none⟩ = false := by
  obtain ⟨cx, a1, a2⟩ := h.cx
  have hs := (a2 w (Kept.refl _ _)).size
  exact ⟨(blk_cell a1 21).trans (by simp [hs]), blk_frozen a1 21⟩
theorem StO.drew (h : StO w0 gr g gm B1 w c m raws os v) : StO w0 gr g gm B1 w.drew c m raws os v := ⟨h.b.drew, by obtain ⟨lo, hi, a, s⟩ := h.cur; exact ⟨lo, hi, a.on (S := fun _ => False) (Kept.refl w _).drew (fun _ h => h.elim) (fun h => h), s⟩, h.cx, h.res, h.h1, h.h2, h.h3, Kd.R_move h.row (fun _ _ => rfl), h.zip, h.nl, h.nv⟩
theorem StO.at_list' (h : StO w0 gr g gm B1 w c m raws os v) {w1 : World} (G : w.grownBy w1 v.ownBlock) : w1.cell? ⟨gm, 21, none⟩ = some v ∧ w1.frozen? ⟨gm, 21, none⟩ = false := by
  obtain ⟨cx, a1, a2⟩ := h.cx
  have hs := (a2 w (Kept.refl _ _)).size
  have nm := own_ne h.row h.h3.2.1
  have a3 := blk_kept a1 ((Kept.refl w (fun k => v.ownBlock = some k)).of_grown G (fun k hk => .inl hk)) (fun e => nm e)
  exact ⟨(blk_cell a3 21).trans (by simp [hs]), blk_frozen a3 21⟩
theorem StO.push (h : StO w0 gr g gm B1 w c m raws os v) {r : RawO} {o : S43} (hg : goodO o) (hz : ∀ W', Kept w W' (fun k => k = g ∨ k = gm ∨ k = gr ∨ v.ownBlock = some k) → FitsO W' r o) {v1 : Value} {w1 : World} (R1 : Kd.R kRawO 43 w1 w0.heap.size (fun k => B1 ≤ k) v1 (raws ++ [r])) (B1_ : Below w0.heap.size w0 w1) (G : w.grownBy w1 v.ownBlock) (hv : v1.ownBlock = v.ownBlock ∨ ∃ b, v1.ownBlock = some b ∧ w.heap.size ≤ b) :
    StO w0 gr g gm B1 (w1.setCell ⟨gm, 21, none⟩ v1) c m (raws ++ [r]) (os ++ [o]) v1 := by
  obtain ⟨cx, a1, a2⟩ := h.cx
  have k1 : Kept w w1 (fun k => v.ownBlock = some k) := (Kept.refl w _).of_grown G (fun k hk => .inl hk)
  have k2 : Kept w1 (w1.setCell ⟨gm, 21, none⟩ v1) (fun k => k = gm) := (Kept.refl w1 (fun k => k = gm)).setCell (p := ⟨gm, 21, none⟩) (.inl rfl) v1
  have nm := own_ne h.row h.h3.2.1
  have ng := own_ne h.row h.h3.1
  have nr := own_ne h.row h.h3.2.2.1
  have kk : Kept w (w1.setCell ⟨gm, 21, none⟩ v1) (fun k => k = g ∨ k = gm ∨ k = gr ∨ v.ownBlock = some k) := (k1.mono fun j hj => .inr (.inr (.inr hj))).then_ k2 (fun j hj => .inl (.inr (.inl hj)))
  have a3 := blk_kept a1 k1 (fun e => nm e)
  have turn : ∀ W', Kept (w1.setCell ⟨gm, 21, none⟩ v1) W' (fun k => k = g ∨ k = gm ∨ k = gr ∨ v1.ownBlock = some k) → Kept w W' (fun k => k = g ∨ k = gm ∨ k = gr ∨ v.ownBlock = some k) := fun W' hk => kk.then_ hk (fun j hj => by
    rcases hj with hj | hj | hj | hj
    · exact .inl (.inl hj)
    · exact .inl (.inr (.inl hj))
    · exact .inl (.inr (.inr (.inl hj)))
    · rcases hv with e | ⟨b, e, hb⟩
      · exact .inl (.inr (.inr (.inr (e ▸ hj))))
      · rw [e] at hj
        have := Option.some.inj hj
        exact .inr (by omega))
  have hs := (a2 w (Kept.refl _ _)).size
  refine ⟨below_set B1_ h.h1.2.1, ?_, ⟨cx, ?_, fun W' hk => a2 W' (turn W' hk)⟩, blk_kept (blk_kept h.res k1 (fun e => nr e)) k2 h.h2.2.2, h.h1, h.h2, ⟨h.h3.1, h.h3.2.1, h.h3.2.2.1, Nat.le_trans h.h3.2.2.2 kk.1⟩, ?_, ?_, ?_, fun e => by simp at e⟩
  · obtain ⟨lo, hi, a, s1, s2⟩ := h.cur
    have hh := a.1.1
    exact ⟨lo, hi, (a.on k1 (fun k e => .inr (by have := h.row.1 k e; have := h.h3; omega)) (fun e => ng e)).on k2 (fun k e => by rw [e]; exact s1) (fun e => h.h2.1 e.symm), s1, s2⟩
  · have := blk_put a3 21 v1 rfl
    rw [this]
    simp
  · refine Kd.R_mono (Kd.R_move (Kd.R_bound R1) fun j hj => k2.2 j hj.2.2.1 fun e => ?_) fun j hj => hj.1
    have h6 := hj.1
    have h7 := h.h3.2.1
    simp only at e
    omega
  · exact (h.zip.imp fun _ _ hz => ⟨hz.1, fun W' hk => hz.2 W' (turn W' hk)⟩).snoc ⟨hg, fun W' hk => hz W' (turn W' hk)⟩
  · obtain ⟨cy, n1, n2⟩ := h.nl
    refine ⟨_, blk_put (blk_kept n1 k1 (fun e => nm e)) 21 v1 rfl, n2.put fun A n e => ?_⟩
    obtain ⟨A', n', e', hn', _⟩ := Kd.R_reads R1
    rw [e'] at e
    injection e with e1 e2 e3
    simp at e2
theorem StO.close (h : StO w0 gr g gm B1 w c m raws os v) : St w0 gr g gm w c { m with objects := os } := by
  obtain ⟨cx, a1, a2⟩ := h.cx
  obtain ⟨A, n, rfl, hn, _⟩ := Kd.R_reads h.row
  have hl := h.zip.1
  have own : ∀ W', Kept w W' (fun k => k = g ∨ k = gm ∨ k = gr) → Kept w W' (fun k => k = g ∨ k = gm ∨ k = gr ∨ (Value.slice A raws.length n).ownBlock = some k) := fun W' hk => hk.mono fun j hj => by
    rcases hj with hj | hj | hj
    · exact .inl hj
    · exact .inr (.inl hj)
    · exact .inr (.inr (.inl hj))
  refine ⟨h.b, h.cur, ⟨_, a1, fun W' hk => ?_⟩, h.res, h.h1, h.h2, h.nl⟩
  have hC := Kd.C_kept_own h.row (S := (fun k => k = g ∨ k = gm ∨ k = gr)) (fun k hk => by have := h.h3; omega) W' hk
  have hz : Zip (FitsO W') raws os := h.zip.imp fun _ _ z => z.2 W' (own W' hk)
  rw [hl] at hC
  have := set_objects (a2 W' (own W' hk)) (A := A) (n := n) (l := os) (by rw [← hl]; exact hn) (fun o ho => by obtain ⟨r, hr, _⟩ := h.zip.mem o ho; exact hr) (zipO_C hC hz)
  rw [hl]
  exact this
end
end Go.Proofs.Ytimclbhlgblifaa.PS
end
section
namespace Go.Proofs.Ytimclbhlgblifaa.Code
open Go.RowKit Go.Maps Go.Proofs.YtimclbhlgblifaaW.PrintWords Go.Proofs.YtimclbhlgblifaaW.PrintLast Go.Proofs.YtimclbhlgblifaaW.PrintMore
def setD (q : IntKind) (l : List Int) : DataW Unit := l.foldl (fun D x => D.put (.int q x) (.lit (.bool true))) (.map [])
theorem setD_snoc (q : IntKind) (l : List Int) (x : Int) : setD q (l ++ [x]) = (setD q l).put (.int q x) (.lit (.bool true)) := by unfold setD; rw [List.foldl_append]; rfl
theorem fold_at (q : IntKind) (c : Int) (l : List Int) : ∀ (D : DataW Unit) (b : Bool), IsMap D → D.atKey (.int q c) (.lit (.bool false)) = .lit (.bool b) → (l.foldl (fun D x => D.put (.int q x) (.lit (.bool true))) D).atKey (.int q c) (.lit (.bool false)) = .lit (.bool (b || l.contains c)) := by
  induction l with
  | nil => intro D b _ h; simpa using h
  | cons x l ih =>
    intro D b hD h
    rw [List.foldl_cons]
    by_cases e : x = c
    · subst e
      rw [ih _ true (hD.put _ _) (atKey_put_same hD (by trivial) _ _)]
      simp
    · rw [ih _ b (hD.put _ _) ((atKey_put_other (fun h => e (by injection h with _ h; exact h.symm)) _ _).trans h)]
      have : (c == x) = false := by rw [beq_eq_false_iff_ne]; exact fun h => e h.symm
      have h2 : ¬ c = x := fun h => e h.symm
      simp [h2]
theorem setD_at (q : IntKind) (l : List Int) (c : Int) : (setD q l).atKey (.int q c) (.lit (.bool false)) = .lit (.bool (l.contains c)) := by
  unfold setD
  rw [fold_at q c l _ false ⟨[], rfl⟩ rfl, Bool.false_or]
theorem plainElem_bool_inv {P : Program} {e : TypeId} (he : P.underlying e = some .bool) {v : Value} {z : DataW Unit × List MemPlace} (h : plainElem P e v = some z) : ∃ b, v = .bool b ∧ z = (.lit (.bool b), []) := by
  unfold plainElem at h
  rw [he] at h
  cases v <;> simp_all
theorem lawu8 : Keyed Try.prog 5 := int_keyed Try.underlying5
theorem zeroBu8 (w : World) : (zeroValue 4).run Try.prog w = .ok (.bool false) w := by kernel_rfl
theorem look_u8 {w : World} {b n : Nat} {l : List Int} (h : w.ownsMap Try.prog 5 (plainElem Try.prog 4) b n (setD .u8 l)) (c : Int) (hc : (Lit.int .u8 c).wf = true) :
    (Instr.lookup 76 (.map (some b)) (.int .u8 c) false).run Try.prog w = .ok (.bool (l.contains c)) w := by
  obtain ⟨vv, ps, hrun, hRv⟩ := h.lookup lawu8 Try.underlying76 (zeroBu8 _) (plainElem_bool Try.underlying4 false) (keyOf_int_mk Try.underlying5 hc)
  rw [setD_at] at hRv
  obtain ⟨bb, rfl, hbb⟩ := plainElem_bool_inv Try.underlying4 hRv
  simp only [Prod.mk.injEq, DataW.lit.injEq, Lit.bool.injEq] at hbb
  rw [hbb.1]
  exact hrun
theorem gate_op_ {P : Program} {ops : Array Oper} {rest : List Oper} {op : Oper} {a : Act} {w : World} {Q : Exit → Act → World → Prop} {u : Op} (_ : op.op = u) (h : wpList P ops Q (op :: rest) a w) : wpList P ops Q (op :: rest) a w := h
theorem wpList_insert_own {H : Type} {P : Program} (w : World) {ops : Array Oper} {rest : List Oper} {o : Oper} {a : Act} {Q : Exit → Act → World → Prop}
    (hg : o.guard = none) (m x v : Operand) (t : TypeId) (hop : o.op = Op.insert t m x v)
    (k e : TypeId) (K : Keyed P k) (ht : P.underlying t = some (.map k e)) (R : Value → Option (DataW H × List MemPlace)) (b n : Nat) (D : DataW H)
    (hm : a.eval m = .map (some b)) (hown : w.ownsMap P k R b n D) (hn : n < maxLen) (key val : Value) (kl : Lit) (hx : a.eval x = key) (hv : a.eval v = val) (hkey : keyOf P k key = some kl)
    (d : DataW H) (ps : List MemPlace) (hval : R val = some (d, ps))
    (hK : ∀ w', w'.ownsMap P k R b (n + 1) (D.put kl d) → w.grownBy w' (some b) → wpList P ops Q rest (a.put o.dst undef) w') :
    wpList P ops Q (o :: rest) a w := by
  refine wpList_plain hg fun K' hK' => ?_
  obtain ⟨w', hrun, r1, r2⟩ := hown.update K ht hn hkey hval
  unfold Oper.wp
  simp [execOp, hop, hm, hx, hv, hrun, Result.andThen]
  exact hK' _ _ (hK w' r1 r2)
def levelL : List Int := [1, 2, 3, 129, 130, 131]
def levB (c : Int) : Bool := levelL.contains c
set_option maxHeartbeats 800000 in
set_option maxRecDepth 100000 in
theorem level_any (c : Int) (w : World) (hc : (Lit.int .u8 c).wf = true) :
    Calls Try.prog 38 #[.int .u8 c] w fun e w' => e = .returned (.bool (levB c)) ∧ Below w.heap.size w w' := by
  have HW := Aside0.mk hc
  clear hc
  have hmm := @run_makeMap Try.prog
  have O : Aside0 ((w.alloc (.map #[] 0)).ownsMap Try.prog 5 (plainElem (H := Unit) Try.prog 4) w.heap.size 0 (setD .u8 [])) := ⟨World.ownsMap_made _ _ _ _⟩
  have HB := Aside0.mk ((Below.refl w.heap.size w).alloc (Nat.le_refl _) (.map #[] 0))
  go_enter Try.func38, Try.ntmps38
  go_wp2_with (first | ((with_reducible refine gate_op_ (u := .insert 76 (.tmp 3) (.const (.int .u8 1)) (.const (.bool true))) rfl ?_); refine wpList_insert_own _ rfl _ _ _ 76 rfl 5 4 lawu8 Try.underlying76 _ w.heap.size 0 _ rfl O.out (by unfold maxLen; omega) _ _ _ rfl rfl (keyOf_int_mk Try.underlying5 (by decide)) _ [] (plainElem_bool Try.underlying4 _) ?_; intro w1 o_ g_; rw [← setD_snoc] at o_; have n0_ := Aside0.mk o_; have n1_ := Aside0.mk (HB.out.grown g_ HB.out.size (fun j hj => by cases hj; exact Nat.le_refl _)); clear O HB o_ g_; have O := n0_; have HB := n1_; clear n0_ n1_) | ((with_reducible refine gate_op_ (u := .insert 76 (.tmp 3) (.const (.int .u8 2)) (.const (.bool true))) rfl ?_); refine wpList_insert_own _ rfl _ _ _ 76 rfl 5 4 lawu8 Try.underlying76 _ w.heap.size 1 _ rfl O.out (by unfold maxLen; omega) _ _ _ rfl rfl (keyOf_int_mk Try.underlying5 (by decide)) _ [] (plainElem_bool Try.underlying4 _) ?_; intro w1 o_ g_; rw [← setD_snoc] at o_; have n0_ := Aside0.mk o_; have n1_ := Aside0.mk (HB.out.grown g_ HB.out.size (fun j hj => by cases hj; exact Nat.le_refl _)); clear O HB o_ g_; have O := n0_; have HB := n1_; clear n0_ n1_) | ((with_reducible refine gate_op_ (u := .insert 76 (.tmp 3) (.const (.int .u8 3)) (.const (.bool true))) rfl ?_); refine wpList_insert_own _ rfl _ _ _ 76 rfl 5 4 lawu8 Try.underlying76 _ w.heap.size 2 _ rfl O.out (by unfold maxLen; omega) _ _ _ rfl rfl (keyOf_int_mk Try.underlying5 (by decide)) _ [] (plainElem_bool Try.underlying4 _) ?_; intro w1 o_ g_; rw [← setD_snoc] at o_; have n0_ := Aside0.mk o_; have n1_ := Aside0.mk (HB.out.grown g_ HB.out.size (fun j hj => by cases hj; exact Nat.le_refl _)); clear O HB o_ g_; have O := n0_; have HB := n1_; clear n0_ n1_) | ((with_reducible refine gate_op_ (u := .insert 76 (.tmp 3) (.const (.int .u8 129)) (.const (.bool true))) rfl ?_); refine wpList_insert_own _ rfl _ _ _ 76 rfl 5 4 lawu8 Try.underlying76 _ w.heap.size 3 _ rfl O.out (by unfold maxLen; omega) _ _ _ rfl rfl (keyOf_int_mk Try.underlying5 (by decide)) _ [] (plainElem_bool Try.underlying4 _) ?_; intro w1 o_ g_; rw [← setD_snoc] at o_; have n0_ := Aside0.mk o_; have n1_ := Aside0.mk (HB.out.grown g_ HB.out.size (fun j hj => by cases hj; exact Nat.le_refl _)); clear O HB o_ g_; have O := n0_; have HB := n1_; clear n0_ n1_) | ((with_reducible refine gate_op_ (u := .insert 76 (.tmp 3) (.const (.int .u8 130)) (.const (.bool true))) rfl ?_); refine wpList_insert_own _ rfl _ _ _ 76 rfl 5 4 lawu8 Try.underlying76 _ w.heap.size 4 _ rfl O.out (by unfold maxLen; omega) _ _ _ rfl rfl (keyOf_int_mk Try.underlying5 (by decide)) _ [] (plainElem_bool Try.underlying4 _) ?_; intro w1 o_ g_; rw [← setD_snoc] at o_; have n0_ := Aside0.mk o_; have n1_ := Aside0.mk (HB.out.grown g_ HB.out.size (fun j hj => by cases hj; exact Nat.le_refl _)); clear O HB o_ g_; have O := n0_; have HB := n1_; clear n0_ n1_) | ((with_reducible refine gate_op_ (u := .insert 76 (.tmp 3) (.const (.int .u8 131)) (.const (.bool true))) rfl ?_); refine wpList_insert_own _ rfl _ _ _ 76 rfl 5 4 lawu8 Try.underlying76 _ w.heap.size 5 _ rfl O.out (by unfold maxLen; omega) _ _ _ rfl rfl (keyOf_int_mk Try.underlying5 (by decide)) _ [] (plainElem_bool Try.underlying4 _) ?_; intro w1 o_ g_; rw [← setD_snoc] at o_; have n0_ := Aside0.mk o_; have n1_ := Aside0.mk (HB.out.grown g_ HB.out.size (fun j hj => by cases hj; exact Nat.le_refl _)); clear O HB o_ g_; have O := n0_; have HB := n1_; clear n0_ n1_; have hrun : (Instr.lookup 76 (.map (some w.heap.size)) (.int .u8 c) false).run Try.prog w1 = .ok (.bool (levB c)) w1 := look_u8 O.out c HW.out))
  go_ret
  exact ⟨by first | rfl | (simp; done), HB.out⟩
end Go.Proofs.Ytimclbhlgblifaa.Code
end
section
namespace Go.Proofs.Ytimclbhlgblifaa.Mei
open Go.RowKit Go.Proofs.Ytimclbhlgblifaa.P Go.Proofs.Ytimclbhlgblifaa.E Go.Proofs.Ytimclbhlgblifaa.Cur Go.Proofs.Ytimclbhlgblifaa.Cu Go.Proofs.Ytimclbhlgblifaa.Same Go.Proofs.Ytimclbhlgblifaa.Code Go.Proofs.YtimclbhlgblifaaW.PrintWords Go.Proofs.YtimclbhlgblifaaW.PrintLast Go.Proofs.YtimclbhlgblifaaW.PrintMore
def objs : Nat → Cu → Cu × List S43
  | 0, c => (c, [])
  | k + 1, c => ((objs k (c.byteS.byteS.bytesS c.byteS.byteV)).1, ⟨c.byteV, c.byteS.byteS.bytesV c.byteS.byteV⟩ :: (objs k (c.byteS.byteS.bytesS c.byteS.byteV)).2)
def ans (c : Cu) (m : Msg) : Cu × Msg :=
  let c1 := c.byteS
  let c2 := c1.need (levB c.byteV) 6
  let c3 := c2.byteS
  let c4 := c3.need (c2.byteV == 0 || c2.byteV == 255) 6
  let c5 := c4.byteS
  let c6 := c5.need (c2.byteV != 0 || c4.byteV == 0) 6
  let c7 := c6.byteS
  let c8 := c7.need (m.kind != 4 || c6.byteV == 1) 5
  ((objs c6.byteV.toNat c8).1, { m with level := c.byteV, more := c2.byteV, next := c4.byteV, objects := (objs c6.byteV.toNat c8).2 })
def body (dir code : Int) (bs : List Int) : Cu × Msg :=
  let c0 : Cu := ⟨bs, false, 0⟩
  let m0 : Msg := { zeroM with code := code, mei := c0.byteV }
  let c2 := c0.byteS.need (c0.byteV == 13 || c0.byteV == 14) 8
  if c0.byteV = 13 then
    let c3 := c2.need (decide ((c2.xs.length : Int) ≤ 251)) 5
    (c3.bytesS c3.xs.length, { m0 with data := c3.bytesV c3.xs.length })
  else
    let c3 := c2.byteS.need (decide (1 ≤ c2.byteV) && decide (c2.byteV ≤ 4)) 6
    if dir = 1 then ans c3 { m0 with kind := c2.byteV } else (c3.byteS, { m0 with kind := c2.byteV, next := c3.byteV })
def parse (dir code : Int) (bs : List Int) : Msg × Int :=
  if dir ≠ 0 ∧ dir ≠ 1 then (zeroM, 1) else if code ≠ 43 then (zeroM, 4) else
  if (body dir code bs).1.fin.e ≠ 0 then (zeroM, (body dir code bs).1.fin.e) else ((body dir code bs).2, 0)
theorem objs_step {j : Nat} {K : Int} {c8 cj c20 c21 c22 c23 : Cu} {os : List S43} (h : objs K.toNat c8 = ((objs (K.toNat - j) cj).1, os ++ (objs (K.toNat - j) cj).2)) (hlt : (j : Int) < K) (e0 : c20 = cj) (e1 : c21 = c20.byteS) (e2 : c22 = c21.byteS) (e3 : c23 = c22.bytesS c21.byteV) :
    objs K.toNat c8 = ((objs (K.toNat - (j + 1)) c23).1, (os ++ [⟨c20.byteV, c22.bytesV c21.byteV⟩]) ++ (objs (K.toNat - (j + 1)) c23).2) := by
  obtain ⟨d, hd⟩ : ∃ d, K.toNat - j = d + 1 := ⟨K.toNat - j - 1, by omega⟩
  have hd2 : K.toNat - (j + 1) = d := by omega
  rw [h, hd, hd2]
  subst e0 e1 e2 e3
  simp [objs]
def mans.T11 : Bool × List (List Nat × List Nat) := (true, [([], []), ([], []), ([1], [1]), ([2], [2]), ([3], [3]), ([], []), ([], []), ([], []), ([7], [7]), ([8], [8]), ([6, 9, 8], [6, 9]), ([5, 10], [5, 10]), ([11], [11]), ([4, 12, 10], [4, 12]), ([0, 0, 1, 2, 3, 4, 5, 6, 7, 8, 9, 10, 11, 12, 13], [0]), ([14, 0, 1, 2, 3, 4, 5, 6, 7, 8, 9, 10, 11, 12, 13], [14]), ([15, 13, 13, 0, 1, 2, 3, 4, 5, 6, 7, 8, 9, 10, 11, 12, 13], [13, 15])])
def mans.B11 : List Nat := [0, 0, 2, 6, 14, 0, 0, 0, 128, 384, 960, 2016, 4064, 8190, 16383, 32767, 65535]
theorem mans.tab11 : rtab .any (opsOf Try.f24 11) = mans.T11 := by kernel_rfl
theorem mans.bits11 : waitsOk mans.T11.2 mans.B11 = true := by kernel_rfl
set_option maxHeartbeats 16000000 in
set_option maxRecDepth 100000 in
theorem answer_any {w0 w : World} {gr g gm : Nat} {c0 : Cu} {m : Msg} (h : PS.St w0 gr g gm w c0 m) (hm : m.objects = []) :
    Calls Try.prog 24 #[.pointer (some ⟨g, 0, none⟩), .pointer (some ⟨gm, 0, none⟩)] w fun en w' => en = .returned (.tuple #[]) ∧ PS.St w0 gr g gm w' (ans c0 m).1 (ans c0 m).2 := by
  have HP := Aside0.mk h
  have G0 := Aside0.mk (PS.St.msg h)
  have hk0 := (goodM_num G0.out).1.2.2.2.2.2.2.2.2.2.2.2.2.2.1
  have hkl := hk0.1
  have hkh := hk0.2
  clear h hk0
  go_enter Try.func24, Try.ntmps24
  go_upto_region 1 with (first | (go_at_call 20; obtain ⟨l0, h0⟩ := Cu.byteV_bd (PS.St.good HP.out); (with_reducible refine (PS.St.byte HP.out).mono ?_); rintro en x1 ⟨rfl, hp_⟩; obtain ⟨c1, ec_⟩ : ∃ z, z = c0.byteS := ⟨_, rfl⟩; rw [← ec_] at hp_; have Ec1 := Aside0.mk ec_; clear ec_; obtain ⟨klevel, flevel⟩ := PS.St.at_level hp_; have n0_ := Aside0.mk hp_; clear HP hp_; have HP := n0_; clear n0_))
  have hp_ := HP.out.put_level ⟨l0, h0⟩
  have n0_ := Aside0.mk hp_
  clear HP hp_
  have HP := n0_
  clear n0_
  go_upto_region 2 with (first | (go_at_call 38; (with_reducible refine (level_any c0.byteV _ (by simp [Lit.wf, IntKind.min, IntKind.max, IntKind.signed, IntKind.bits]; omega)).mono ?_); rintro en xl ⟨rfl, hb_⟩; have n0_ := Aside0.mk (HP.out.below hb_); clear HP hb_; have HP := n0_; clear n0_) | (go_at_call 21; (with_reducible refine (PS.St.need HP.out (levB c0.byteV) 6).mono ?_); rintro en x2 ⟨rfl, hp_⟩; obtain ⟨c2, ec_⟩ : ∃ z, z = c1.need (levB c0.byteV) 6 := ⟨_, rfl⟩; rw [← ec_] at hp_; have Ec2 := Aside0.mk ec_; clear ec_; have n0_ := Aside0.mk hp_; clear HP hp_; have HP := n0_; clear n0_))
  go_upto_region 3 with (first | (go_at_call 20; obtain ⟨l2, h2⟩ := Cu.byteV_bd (PS.St.good HP.out); (with_reducible refine (PS.St.byte HP.out).mono ?_); rintro en x3 ⟨rfl, hp_⟩; obtain ⟨c3, ec_⟩ : ∃ z, z = c2.byteS := ⟨_, rfl⟩; rw [← ec_] at hp_; have Ec3 := Aside0.mk ec_; clear ec_; obtain ⟨kmore, fmore⟩ := PS.St.at_more hp_; have n0_ := Aside0.mk hp_; clear HP hp_; have HP := n0_; clear n0_))
  have hp_ := HP.out.put_more ⟨l2, h2⟩
  have n0_ := Aside0.mk hp_
  clear HP hp_
  have HP := n0_
  clear n0_
  obtain ⟨kmore, fmore⟩ := PS.St.at_more HP.out
  obtain ⟨c4, e_⟩ : ∃ z, z = c3.need (c2.byteV == 0 || c2.byteV == 255) 6 := ⟨_, rfl⟩
  have Ec4 := Aside0.mk e_
  clear e_
  go_cut [] from 23 to 36 (fun wx => Aside0 (PS.St w0 gr g gm wx c4 ({ m with level := c0.byteV, more := c2.byteV })))
  case first =>
    cases hs_ : (c2.byteV == 0) with
    | false =>
      have eb_ : (c2.byteV == 0 || c2.byteV == 255) = (c2.byteV == 255) := by first | (rw [hs_]; first | rfl | simp) | (rw [bne, hs_]; first | rfl | simp) | simp [hs_, bne]
      have hn_ : (c2.byteV != 0) = true := by rw [bne, hs_]; rfl
      have EB_ := Aside0.mk eb_
      clear eb_
      go_wp2_with (go_at_call 21; (with_reducible refine (PS.St.need HP.out (c2.byteV == 255) 6).mono ?_); rintro en x4 ⟨rfl, hp_⟩; have n0_ := Aside0.mk hp_; clear HP hp_; have HP := n0_; clear n0_)
      go_meet
      rw [Ec4.out, EB_.out]
      exact HP
    | true =>
      have eb_ : (c2.byteV == 0 || c2.byteV == 255) = (true) := by first | (rw [hs_]; first | rfl | simp) | (rw [bne, hs_]; first | rfl | simp) | simp [hs_, bne]
      have hn_ : (c2.byteV != 0) = false := by rw [bne, hs_]; rfl
      have EB_ := Aside0.mk eb_
      clear eb_
      go_wp2_with (go_at_call 21; (with_reducible refine (PS.St.need HP.out (true) 6).mono ?_); rintro en x4 ⟨rfl, hp_⟩; have n0_ := Aside0.mk hp_; clear HP hp_; have HP := n0_; clear n0_)
      go_meet
      rw [Ec4.out, EB_.out]
      exact HP
  case rest =>
  clear HP
  have HP := hcut
  clear hcut
  go_upto_region 4 with (fail)
  go_upto_region 5 with (first | (go_at_call 20; obtain ⟨l4, h4⟩ := Cu.byteV_bd (PS.St.good HP.out); (with_reducible refine (PS.St.byte HP.out).mono ?_); rintro en x5 ⟨rfl, hp_⟩; obtain ⟨c5, ec_⟩ : ∃ z, z = c4.byteS := ⟨_, rfl⟩; rw [← ec_] at hp_; have Ec5 := Aside0.mk ec_; clear ec_; obtain ⟨knext, fnext⟩ := PS.St.at_next hp_; have n0_ := Aside0.mk hp_; clear HP hp_; have HP := n0_; clear n0_))
  have hp_ := HP.out.put_next ⟨l4, h4⟩
  obtain ⟨kmore, fmore⟩ := PS.St.at_more hp_
  obtain ⟨knext, fnext⟩ := PS.St.at_next hp_
  have n0_ := Aside0.mk hp_
  clear HP hp_
  have HP := n0_
  clear n0_
  obtain ⟨c6, e_⟩ : ∃ z, z = c5.need (c2.byteV != 0 || c4.byteV == 0) 6 := ⟨_, rfl⟩
  have Ec6 := Aside0.mk e_
  clear e_
  go_cut [] from 42 to 55 (fun wx => Aside0 (PS.St w0 gr g gm wx c6 ({ m with level := c0.byteV, more := c2.byteV, next := c4.byteV })))
  case first =>
    cases hs_ : (c2.byteV == 0) with
    | false =>
      have eb_ : (c2.byteV != 0 || c4.byteV == 0) = (true) := by first | (rw [hs_]; first | rfl | simp) | (rw [bne, hs_]; first | rfl | simp) | simp [hs_, bne]
      have hn_ : (c2.byteV != 0) = true := by rw [bne, hs_]; rfl
      have EB_ := Aside0.mk eb_
      clear eb_
      go_wp2_with (go_at_call 21; (with_reducible refine (PS.St.need HP.out (true) 6).mono ?_); rintro en x6 ⟨rfl, hp_⟩; have n0_ := Aside0.mk hp_; clear HP hp_; have HP := n0_; clear n0_)
      go_meet
      rw [Ec6.out, EB_.out]
      exact HP
    | true =>
      have eb_ : (c2.byteV != 0 || c4.byteV == 0) = (c4.byteV == 0) := by first | (rw [hs_]; first | rfl | simp) | (rw [bne, hs_]; first | rfl | simp) | simp [hs_, bne]
      have hn_ : (c2.byteV != 0) = false := by rw [bne, hs_]; rfl
      have EB_ := Aside0.mk eb_
      clear eb_
      go_wp2_with (go_at_call 21; (with_reducible refine (PS.St.need HP.out (c4.byteV == 0) 6).mono ?_); rintro en x6 ⟨rfl, hp_⟩; have n0_ := Aside0.mk hp_; clear HP hp_; have HP := n0_; clear n0_)
      go_meet
      rw [Ec6.out, EB_.out]
      exact HP
  case rest =>
  clear HP
  have HP := hcut
  clear hcut
  go_upto_region 7 with (first | (go_at_call 20; obtain ⟨l6, h6⟩ := Cu.byteV_bd (PS.St.good HP.out); (with_reducible refine (PS.St.byte HP.out).mono ?_); rintro en x7 ⟨rfl, hp_⟩; obtain ⟨c7, ec_⟩ : ∃ z, z = c6.byteS := ⟨_, rfl⟩; rw [← ec_] at hp_; have Ec7 := Aside0.mk ec_; clear ec_; have n0_ := Aside0.mk hp_; clear HP hp_; have HP := n0_; clear n0_))
  obtain ⟨kkind, fkind⟩ := PS.St.at_kind HP.out
  obtain ⟨c8, e_⟩ : ∃ z, z = c7.need (m.kind != 4 || c6.byteV == 1) 5 := ⟨_, rfl⟩
  have Ec8 := Aside0.mk e_
  clear e_
  go_cut [] from 59 to 69 (fun wx => Aside0 (PS.St w0 gr g gm wx c8 ({ m with level := c0.byteV, more := c2.byteV, next := c4.byteV })))
  case first =>
    cases hs_ : (m.kind == 4) with
    | false =>
      have eb_ : (m.kind != 4 || c6.byteV == 1) = (true) := by first | (rw [hs_]; first | rfl | simp) | (rw [bne, hs_]; first | rfl | simp) | simp [hs_, bne]
      have hn_ : (m.kind != 4) = true := by rw [bne, hs_]; rfl
      have EB_ := Aside0.mk eb_
      clear eb_
      go_wp2_with (go_at_call 21; (with_reducible refine (PS.St.need HP.out (true) 5).mono ?_); rintro en x8 ⟨rfl, hp_⟩; have n0_ := Aside0.mk hp_; clear HP hp_; have HP := n0_; clear n0_)
      go_meet
      rw [Ec8.out, EB_.out]
      exact HP
    | true =>
      have eb_ : (m.kind != 4 || c6.byteV == 1) = (c6.byteV == 1) := by first | (rw [hs_]; first | rfl | simp) | (rw [bne, hs_]; first | rfl | simp) | simp [hs_, bne]
      have hn_ : (m.kind != 4) = false := by rw [bne, hs_]; rfl
      have EB_ := Aside0.mk eb_
      clear eb_
      go_wp2_with (go_at_call 21; (with_reducible refine (PS.St.need HP.out (c6.byteV == 1) 5).mono ?_); rintro en x8 ⟨rfl, hp_⟩; have n0_ := Aside0.mk hp_; clear HP hp_; have HP := n0_; clear n0_)
      go_meet
      rw [Ec8.out, EB_.out]
      exact HP
  case rest =>
  clear HP
  have HP := hcut
  clear hcut
  have HS := Aside0.mk (PS.StO.start HP.out hm)
  clear HP
  obtain ⟨B1, hB1⟩ : ∃ z, z = wc.heap.size := ⟨_, rfl⟩
  rw [← hB1] at HS
  clear hB1
  go_wp2
  go_loopw [71] (fun i wr => ∃ (j : Nat) (cj : Cu) (raws : List RawO) (os : List S43) (v : Value), (j : Int) ≤ c6.byteV ∧ i = .int .i64 j ∧ Aside0 (PS.StO w0 gr g gm B1 wr cj ({ m with level := c0.byteV, more := c2.byteV, next := c4.byteV }) raws os v) ∧ Aside0 (objs c6.byteV.toNat c8 = ((objs (c6.byteV.toNat - j) cj).1, os ++ (objs (c6.byteV.toNat - j) cj).2)) ∧ Aside0 (raws.length = j)) (fun i _ => c6.byteV.toNat - (intOf i).toNat)
  case atStart => exact ⟨0, c8, [], [], _, l6, rfl, HS, ⟨by simp⟩, ⟨rfl⟩⟩
  case round =>
    clear HS
    obtain ⟨j, cj, raws, os, v, hj, rfl, HP, HO, HL⟩ := hrel
    by_cases hlt : (j : Int) < c6.byteV
    · obtain ⟨c20, e20_⟩ : ∃ z, z = cj := ⟨_, rfl⟩
      rw [← e20_] at HP
      have EC := Aside0.mk e20_
      clear e20_
      go_upto_region 11 with (first | (go_at_call 20; obtain ⟨l20, h20⟩ := Cu.byteV_bd (PS.StO.good HP.out); (with_reducible refine (PS.StO.byte HP.out).mono ?_); rintro en x41 ⟨rfl, hp_⟩; obtain ⟨c21, ec_⟩ : ∃ z, z = c20.byteS := ⟨_, rfl⟩; rw [← ec_] at hp_; have Ec21 := Aside0.mk ec_; clear ec_; have n0_ := Aside0.mk hp_; clear HP hp_; have HP := n0_; clear n0_))
      obtain ⟨l21, h21⟩ := Cu.byteV_bd (PS.StO.good HP.out)
      have wx : IntKind.i64.wrap c21.byteV = c21.byteV := by rw [IntKind.wrap_i64]; omega
      have HPd := Aside0.mk (PS.StO.drew HP.out)
      have hB1 := HP.out.h3.2.2.2
      have hv := (PS.StO.at_list HPd.out).1
      refine start_ (n := 17) (S := fun w' => w'.cell? ⟨gm, 21, none⟩ = some v) (ds := [16]) (bm 17 0) (by as_aux_lemma => kernel_rfl) rfl (by as_aux_lemma => kernel_rfl) (hv) (fun hHeld => ?_)
      refine with_tabW mans.tab11 mans.bits11 (fun HT_ HW_ => ?_)
      refine pure_ (i := 0) (N := some 75) (v := ?_) (a' := ?_) (bm 17 1) rfl rfl (any_of HT_.out (by as_aux_lemma => kernel_rfl)) (fun _ _ _ h => h) (Or.inl ⟨by rfl, ?_⟩) ?_ ?_
      rotate_left
      · intro w'
        go_simp
        with_reducible rfl
      rotate_left
      · simp only [Act.put, List.setIfInBounds_toArray, List.set_cons_zero, List.set_cons_succ, i64_w, i32_w]
        rfl
      refine pure_ (i := 1) (N := some 76) (v := ?_) (a' := ?_) (bm 17 3) rfl rfl (any_of HT_.out (by as_aux_lemma => kernel_rfl)) (fun _ _ _ h => h) (Or.inl ⟨by rfl, ?_⟩) ?_ ?_
      rotate_left
      · intro w'
        go_simp
        with_reducible rfl
      rotate_left
      · simp only [Act.put, List.setIfInBounds_toArray, List.set_cons_zero, List.set_cons_succ, i64_w, i32_w]
        rfl
      refine pure_ (i := 2) (N := some 77) (v := ?_) (a' := ?_) (bm 17 7) rfl rfl (any_of HT_.out (by as_aux_lemma => kernel_rfl)) (fun _ _ _ h => h) (Or.inl ⟨by rfl, ?_⟩) ?_ ?_
      rotate_left
      · intro w'
        go_simp
        with_reducible rfl
      rotate_left
      · simp only [Act.put, List.setIfInBounds_toArray, List.set_cons_zero, List.set_cons_succ, i64_w, i32_w]
        rfl
      refine pure_ (i := 3) (N := some 78) (v := ?_) (a' := ?_) (bm 17 15) rfl rfl (any_of HT_.out (by as_aux_lemma => kernel_rfl)) (fun _ _ _ h => h) (Or.inl ⟨by rfl, ?_⟩) ?_ ?_
      rotate_left
      · intro w'
        go_simp
        with_reducible rfl
      rotate_left
      · simp only [Act.put, List.setIfInBounds_toArray, List.set_cons_zero, List.set_cons_succ, i64_w, i32_w]
        rfl
      refine pure_ (i := 5) (N := some 80) (v := ?_) (a' := ?_) (bm 17 47) rfl rfl (any_of HT_.out (by as_aux_lemma => kernel_rfl)) (fun _ _ _ h => h) (Or.inl ⟨by rfl, ?_⟩) ?_ ?_
      rotate_left
      · intro w'
        go_simp
        with_reducible rfl
      rotate_left
      · simp only [Act.put, List.setIfInBounds_toArray, List.set_cons_zero, List.set_cons_succ, i64_w, i32_w]
        rfl
      refine pure_ (i := 6) (N := some 81) (v := ?_) (a' := ?_) (bm 17 111) rfl rfl (any_of HT_.out (by as_aux_lemma => kernel_rfl)) (fun _ _ _ h => h) (Or.inl ⟨by rfl, ?_⟩) ?_ ?_
      rotate_left
      · intro w'
        go_simp
        with_reducible rfl
      rotate_left
      · simp only [Act.put, List.setIfInBounds_toArray, List.set_cons_zero, List.set_cons_succ, i64_w, i32_w]
        rfl
      refine pure_ (i := 7) (N := some 82) (v := ?_) (a' := ?_) (bm 17 239) rfl rfl (any_of HT_.out (by as_aux_lemma => kernel_rfl)) (fun _ _ _ h => h) (Or.inl ⟨by rfl, ?_⟩) ?_ ?_
      rotate_left
      · intro w'
        go_simp
        with_reducible rfl
      rotate_left
      · simp only [Act.put, List.setIfInBounds_toArray, List.set_cons_zero, List.set_cons_succ, i64_w, i32_w]
        rfl
      refine take_ (i := 4) (N := some 79) (v := ?_) (a' := ?_) (bm 17 255) rfl rfl (take_ofW HT_.out HW_.out (by as_aux_lemma => kernel_rfl)) (fun _ _ _ h => h) (Or.inl ⟨by rfl, ?_⟩) hHeld ?_ ?_
      rotate_left
      · intro w' s0
        go_simp
        with_reducible rfl
      rotate_left
      · simp only [Act.put, List.setIfInBounds_toArray, List.set_cons_zero, List.set_cons_succ, i64_w, i32_w]
        rfl
      refine one_ (i := 8) (N := some 83) (bm 17 511) rfl rfl (one_of HT_.out (by as_aux_lemma => kernel_rfl)) (by as_aux_lemma => decide) (fun K hK => ?_)
      refine goes_ Try.func20 (by as_aux_lemma => kernel_rfl) rfl #[.pointer (some ⟨g, 0, none⟩)] (by rfl) rfl rfl (by simp only [List.map_toArray, List.map_cons, List.map_nil]; rfl) ?_
      with_reducible refine (PS.StO.byte HPd.out).mono ?_
      rintro en y1 ⟨rfl, hp_⟩
      obtain ⟨c22, e_⟩ : ∃ z, z = c21.byteS := ⟨_, rfl⟩
      rw [← e_] at hp_
      have Ec22 := Aside0.mk e_
      have HP1 := Aside0.mk hp_
      clear e_ hp_
      refine ⟨_, rfl, ?_⟩
      refine hK.out _ _ ((PS.StO.at_list HP1.out).1) (fun hHeld => ?_)
      clear hK K
      refine norm_ (a' := ?_) ?_ ?_
      rotate_left
      · show Act.put _ (some 83) _ = _
        simp only [Act.put, List.setIfInBounds_toArray, List.set_cons_zero, List.set_cons_succ, i64_w, i32_w]
        rfl
      refine pure_ (i := 9) (N := some 84) (v := ?_) (a' := ?_) (bm 17 1023) rfl rfl (any_of HT_.out (by as_aux_lemma => kernel_rfl)) (fun _ _ _ h => h) (Or.inl ⟨by rfl, ?_⟩) ?_ ?_
      rotate_left
      · intro w'
        go_simp
        with_reducible rfl
      rotate_left
      · simp only [Act.put, List.setIfInBounds_toArray, List.set_cons_zero, List.set_cons_succ, i64_w, i32_w]
        rfl
      refine one_ (i := 10) (N := some 85) (bm 17 2047) rfl rfl (one_of HT_.out (by as_aux_lemma => kernel_rfl)) (by as_aux_lemma => decide) (fun K hK => ?_)
      refine goes_ Try.func23 (by as_aux_lemma => kernel_rfl) rfl #[.pointer (some ⟨g, 0, none⟩), .int .i64 c21.byteV] (by rfl) rfl rfl (by simp only [List.map_toArray, List.map_cons, List.map_nil]; rfl) ?_
      with_reducible refine (PS.StO.bytes HP1.out c21.byteV).mono ?_
      rintro en y2 ⟨A5, n5, rfl, hz_, hr_, hp_⟩
      obtain ⟨c23, e_⟩ : ∃ z, z = c22.bytesS c21.byteV := ⟨_, rfl⟩
      rw [← e_] at hp_
      have Ec23 := Aside0.mk e_
      have HP2 := Aside0.mk hp_
      have RZ := Aside0.mk hz_
      have RR := Aside0.mk hr_
      clear e_ hp_ hz_ hr_
      refine ⟨_, rfl, ?_⟩
      refine hK.out _ _ ((PS.StO.at_list HP2.out).1) (fun hHeld => ?_)
      clear hK K
      refine norm_ (a' := ?_) ?_ ?_
      rotate_left
      · show Act.put _ (some 85) _ = _
        simp only [Act.put, List.setIfInBounds_toArray, List.set_cons_zero, List.set_cons_succ, i64_w, i32_w]
        rfl
      refine pure_ (i := 11) (N := some 86) (v := ?_) (a' := ?_) (bm 17 4095) rfl rfl (any_of HT_.out (by as_aux_lemma => kernel_rfl)) (fun _ _ _ h => h) (Or.inl ⟨by rfl, ?_⟩) ?_ ?_
      rotate_left
      · intro w'
        go_simp
        with_reducible rfl
      rotate_left
      · simp only [Act.put, List.setIfInBounds_toArray, List.set_cons_zero, List.set_cons_succ, i64_w, i32_w]
        rfl
      refine one_ (i := 12) (N := some 87) (bm 17 8191) rfl rfl (one_of HT_.out (by as_aux_lemma => kernel_rfl)) (by as_aux_lemma => decide) (fun K hK => ?_)
      refine value_ (w1 := ?_) (v := ?_) (by rfl) rfl ?_ ?_
      rotate_left 2
      · go_simp
        constructor
        · rfl
        · rfl
      refine hK.out _ _ (((below_alloc (Below.refl y2.heap.size y2) _).cell (World.block_lt_of_cell? y2 _ (PS.StO.at_list HP2.out).1)).trans (PS.StO.at_list HP2.out).1) (fun hHeld => ?_)
      clear hK K
      refine norm_ (a' := ?_) ?_ ?_
      rotate_left
      · show Act.put _ (some 87) _ = _
        simp only [Act.put, List.setIfInBounds_toArray, List.set_cons_zero, List.set_cons_succ, i64_w, i32_w]
        rfl
      refine one_ (i := 13) (N := some 88) (bm 17 16383) rfl rfl (one_of HT_.out (by as_aux_lemma => kernel_rfl)) (by as_aux_lemma => decide) (fun K hK => ?_)
      refine Kd.R_append_step kRawO (w0 := w0) (W := y2) w0.heap.size (by rfl) (.tmp 79) (.tmp 87) 28 43 (.agg #[.int .u8 0, .slice none 0 0]) 32 rfl Try.underlying28 (by as_aux_lemma => kernel_rfl) rfl (by as_aux_lemma => decide) (by as_aux_lemma => decide) v raws ⟨c20.byteV, A5, (c22.bytesV c21.byteV).length, n5⟩ [Value.int IntKind.u8 c20.byteV, Value.slice A5 (c22.bytesV c21.byteV).length n5] (fun k => B1 ≤ k) (fun _ => False) (by rfl) (by rfl) rfl (fun _ h => h.elim) (fun k hk => by have := HP2.out.h3.2.2.2; omega) HP2.out.row HP2.out.b HP2.out.b.size (by have := HL.out; omega) ?_
      intro v1 y3 R1 hb1 G1 hv1
      obtain ⟨A9, n9, e9, _, _⟩ := Kd.R_reads R1
      obtain ⟨N9, hN9⟩ : ∃ z, z = (raws ++ [(⟨c20.byteV, A5, (c22.bytesV c21.byteV).length, n5⟩ : RawO)]).length := ⟨_, rfl⟩
      rw [← hN9] at e9
      subst e9
      clear hN9
      obtain ⟨kl, fl⟩ := PS.StO.at_list' HP2.out G1
      refine hK.out _ _ (kl) (fun hHeld => ?_)
      clear hK K
      refine norm_ (a' := ?_) ?_ ?_
      rotate_left
      · show Act.put _ (some 88) _ = _
        simp only [Act.put, List.setIfInBounds_toArray, List.set_cons_zero, List.set_cons_succ, i64_w, i32_w]
        rfl
      refine pure_ (i := 14) (N := some 89) (v := ?_) (a' := ?_) (bm 17 32767) rfl rfl (any_of HT_.out (by as_aux_lemma => kernel_rfl)) (fun _ _ _ h => h) (Or.inl ⟨by rfl, ?_⟩) ?_ ?_
      rotate_left
      · intro w'
        go_simp
        with_reducible rfl
      rotate_left
      · simp only [Act.put, List.setIfInBounds_toArray, List.set_cons_zero, List.set_cons_succ, i64_w, i32_w]
        rfl
      refine pure_ (i := 15) (N := some 90) (v := ?_) (a' := ?_) (bm 17 65535) rfl rfl (any_of HT_.out (by as_aux_lemma => kernel_rfl)) (fun _ _ _ h => h) (Or.inl ⟨by rfl, ?_⟩) ?_ ?_
      rotate_left
      · intro w'
        go_simp
        with_reducible rfl
      rotate_left
      · simp only [Act.put, List.setIfInBounds_toArray, List.set_cons_zero, List.set_cons_succ, i64_w, i32_w]
        rfl
      refine last_ (i := 16) (N := none) (bm 17 131071) rfl rfl (one_of HT_.out (by as_aux_lemma => kernel_rfl)) (by as_aux_lemma => decide) (fun K hK => ?_)
      refine skip_ (w1 := ?_) (by rfl) rfl ?_ ?_
      rotate_left
      · go_simp
        rfl
      refine hK.out _ _ ?_
      clear hK K
      refine done_ (done_of HT_.out (by as_aux_lemma => kernel_rfl)) ?_
      
      have hgood : goodO (⟨c20.byteV, c22.bytesV c21.byteV⟩ : S43) := ⟨⟨l20, h20⟩, Cu.bytes_bytesV (PS.StO.good HP1.out) _⟩
      have HN := Aside0.mk (PS.StO.push HP2.out (r := ⟨c20.byteV, A5, (c22.bytesV c21.byteV).length, n5⟩) (o := ⟨c20.byteV, c22.bytesV c21.byteV⟩) hgood (fun W' hk => ⟨rfl, rfl, RZ.out, RR.out W' hk⟩) R1 hb1 G1 hv1)
      have HO2 := Aside0.mk (objs_step HO.out hlt EC.out Ec21.out Ec22.out Ec23.out)
      have HL2 := Aside0.mk (show (raws ++ [(⟨c20.byteV, A5, (c22.bytesV c21.byteV).length, n5⟩ : RawO)]).length = j + 1 by rw [List.length_append, HL.out]; rfl)
      clear HP HPd HP1 HP2 R1 hb1 G1 hv1 hgood HO HL
      go_wp2
      go_roundw
      case rel => exact ⟨j + 1, c23, _, _, _, by omega, by go_num, HN, HO2, HL2⟩
      case measure => simp [intOf]; omega
    · have HF := PS.StO.close HP.out
      have e0 : c6.byteV.toNat - j = 0 := by omega
      have ho := HO.out
      rw [e0] at ho
      have e1 : objs c6.byteV.toNat c8 = (cj, os) := by rw [ho]; simp [objs]
      have E1 := Aside0.mk e1
      have HFF := Aside0.mk HF
      clear HF ho e1 e0
      go_wp2
      refine bodyPost_end (results_none rfl _ _ _) rfl ⟨rfl, ?_⟩
      have hans : ans c0 m = (cj, { m with level := c0.byteV, more := c2.byteV, next := c4.byteV, objects := os }) := by
        simp only [ans]
        rw [← Ec1.out, ← Ec2.out, ← Ec3.out, ← Ec4.out, ← Ec5.out, ← Ec6.out, ← Ec7.out, ← Ec8.out]
        rw [E1.out]
      rw [hans]
      exact HFF.out
end Go.Proofs.Ytimclbhlgblifaa.Mei
end
section
namespace Go.Proofs.Ytimclbhlgblifaa.Mei
open Go.RowKit Go.Proofs.Ytimclbhlgblifaa.P Go.Proofs.Ytimclbhlgblifaa.E Go.Proofs.Ytimclbhlgblifaa.Cur Go.Proofs.Ytimclbhlgblifaa.Cu Go.Proofs.Ytimclbhlgblifaa.Same Go.Proofs.Ytimclbhlgblifaa.Code Go.Proofs.YtimclbhlgblifaaW.PrintWords Go.Proofs.YtimclbhlgblifaaW.PrintLast Go.Proofs.YtimclbhlgblifaaW.PrintMore
set_option maxHeartbeats 16000000 in
set_option maxRecDepth 100000 in
theorem parse_dir {A : Option Addr} {c : Nat} {l : List Int} {w0 : World} (hr : Kd.C (Kd.int .u8) w0 A l.length l) (hc : l.length ≤ c) (hs : l.length ≤ 1000000) (hb : isBytes l) {dir code : Int} (h0 : dir ≠ 0) (h1 : dir ≠ 1) :
    Calls Try.prog 12 #[.int .i64 dir, .int .u8 code, .slice A l.length c] w0 fun en w' => ∃ cx, en = .returned (.tuple #[.agg cx, .int .i64 1]) ∧ IsMsg w' cx zeroM ∧ Below w0.heap.size w0 w' := by
  clear hr hc hs hb
  have H := Aside0.mk (Held.start w0)
  have e0 : (dir != 0) = true := by simpa using h0
  have e1 : (dir != 1) = true := by simpa using h1
  have e0' : (dir == 0) = false := by simpa using h0
  have e1' : (dir == 1) = false := by simpa using h1
  clear h0 h1
  go_enter Try.func12, Try.ntmps12
  go_wp2_with (first | ((with_reducible refine gate_dst (N := 6) rfl ?_); refine ev_alloc rfl rfl ?_; intro g w1 hg_ h1_ h2_; have n0_ := Aside0.mk (H.out.new hg_ h1_ h2_); clear H; have H := n0_; clear n0_; clear h1_ h2_ hg_) | ((with_reducible refine gate_dst (N := 18) rfl ?_); refine ev_build (zeroC) rfl (by go_simp; first | rfl | done) ?_; intro cx hcx_; have M := Aside0.mk (show ∀ W, IsMsg W cx _ from fun W => by rw [hcx_]; exact zero_is W); clear hcx_) | ((with_reducible refine gate_op (u := .store 30 (.tmp 6) (.tmp 18)) rfl ?_); refine ev_store rfl rfl rfl rfl H.out (i := 0) rfl (rfl) (M.out w0) ?_; intro w2 h3_ h4_; have n0_ := Aside0.mk (h3_); clear H; have H := n0_; clear n0_; clear h3_ h4_))
  refine bodyPost_ret (results_ct rfl _ _ g 30 cx (0, 0) _ rfl (H.out.at 0 rfl) Try.underlying30 rfl (msg_info ((M.out w0).size))) rfl (⟨cx, rfl, M.out _, H.out.b⟩)
set_option maxHeartbeats 16000000 in
set_option maxRecDepth 100000 in
theorem parse_code0 {A : Option Addr} {c : Nat} {l : List Int} {w0 : World} (hr : Kd.C (Kd.int .u8) w0 A l.length l) (hc : l.length ≤ c) (hs : l.length ≤ 1000000) (hb : isBytes l) {code : Int} (h1 : code ≠ 43) :
    Calls Try.prog 12 #[.int .i64 0, .int .u8 code, .slice A l.length c] w0 fun en w' => ∃ cx, en = .returned (.tuple #[.agg cx, .int .i64 4]) ∧ IsMsg w' cx zeroM ∧ Below w0.heap.size w0 w' := by
  clear hr hc hs hb
  have H := Aside0.mk (Held.start w0)
  have e1 : (code != 43) = true := by simpa using h1
  have e1' : (code == 43) = false := by simpa using h1
  clear h1
  go_enter Try.func12, Try.ntmps12
  go_wp2_with (first | ((with_reducible refine gate_dst (N := 6) rfl ?_); refine ev_alloc rfl rfl ?_; intro g w1 hg_ h1_ h2_; have n0_ := Aside0.mk (H.out.new hg_ h1_ h2_); clear H; have H := n0_; clear n0_; clear h1_ h2_ hg_) | ((with_reducible refine gate_dst (N := 22) rfl ?_); refine ev_build (zeroC) rfl (by go_simp; first | rfl | done) ?_; intro cx hcx_; have M := Aside0.mk (show ∀ W, IsMsg W cx _ from fun W => by rw [hcx_]; exact zero_is W); clear hcx_) | ((with_reducible refine gate_op (u := .store 30 (.tmp 6) (.tmp 22)) rfl ?_); refine ev_store rfl rfl rfl rfl H.out (i := 0) rfl (rfl) (M.out w0) ?_; intro w2 h3_ h4_; have n0_ := Aside0.mk (h3_); clear H; have H := n0_; clear n0_; clear h3_ h4_))
  refine bodyPost_ret (results_ct rfl _ _ g 30 cx (0, 0) _ rfl (H.out.at 0 rfl) Try.underlying30 rfl (msg_info ((M.out w0).size))) rfl (⟨cx, rfl, M.out _, H.out.b⟩)
set_option maxHeartbeats 16000000 in
set_option maxRecDepth 100000 in
theorem parse_code1 {A : Option Addr} {c : Nat} {l : List Int} {w0 : World} (hr : Kd.C (Kd.int .u8) w0 A l.length l) (hc : l.length ≤ c) (hs : l.length ≤ 1000000) (hb : isBytes l) {code : Int} (h1 : code ≠ 43) :
    Calls Try.prog 12 #[.int .i64 1, .int .u8 code, .slice A l.length c] w0 fun en w' => ∃ cx, en = .returned (.tuple #[.agg cx, .int .i64 4]) ∧ IsMsg w' cx zeroM ∧ Below w0.heap.size w0 w' := by
  clear hr hc hs hb
  have H := Aside0.mk (Held.start w0)
  have e1 : (code != 43) = true := by simpa using h1
  have e1' : (code == 43) = false := by simpa using h1
  clear h1
  go_enter Try.func12, Try.ntmps12
  go_wp2_with (first | ((with_reducible refine gate_dst (N := 6) rfl ?_); refine ev_alloc rfl rfl ?_; intro g w1 hg_ h1_ h2_; have n0_ := Aside0.mk (H.out.new hg_ h1_ h2_); clear H; have H := n0_; clear n0_; clear h1_ h2_ hg_) | ((with_reducible refine gate_dst (N := 22) rfl ?_); refine ev_build (zeroC) rfl (by go_simp; first | rfl | done) ?_; intro cx hcx_; have M := Aside0.mk (show ∀ W, IsMsg W cx _ from fun W => by rw [hcx_]; exact zero_is W); clear hcx_) | ((with_reducible refine gate_op (u := .store 30 (.tmp 6) (.tmp 22)) rfl ?_); refine ev_store rfl rfl rfl rfl H.out (i := 0) rfl (rfl) (M.out w0) ?_; intro w2 h3_ h4_; have n0_ := Aside0.mk (h3_); clear H; have H := n0_; clear n0_; clear h3_ h4_))
  refine bodyPost_ret (results_ct rfl _ _ g 30 cx (0, 0) _ rfl (H.out.at 0 rfl) Try.underlying30 rfl (msg_info ((M.out w0).size))) rfl (⟨cx, rfl, M.out _, H.out.b⟩)
set_option maxHeartbeats 16000000 in
set_option maxRecDepth 100000 in
theorem parse_go0 {A : Option Addr} {c : Nat} {l : List Int} {w0 : World} (hr : Kd.C (Kd.int .u8) w0 A l.length l) (hc : l.length ≤ c) (hs : l.length ≤ 1000000) (hb : isBytes l) :
    Calls Try.prog 12 #[.int .i64 0, .int .u8 43, .slice A l.length c] w0 fun en w' => ∃ cx, en = .returned (.tuple #[.agg cx, .int .i64 (parse 0 43 l).2]) ∧ IsMsg w' cx (parse 0 43 l).1 ∧ Below w0.heap.size w0 w' := by
  have HR := Aside0.mk hr
  have HC := Aside0.mk hc
  have HS := Aside0.mk hs
  have HBB := Aside0.mk hb
  clear hr hc hs hb
  go_enter Try.func12, Try.ntmps12
  go_upto_region 5 with (first | ((with_reducible refine gate_dst (N := 6) rfl ?_); refine ev_alloc rfl rfl ?_; intro gr w1 hg_ h1_ h2_; have HG := Aside0.mk hg_; have H1 := Aside0.mk h1_; have H2 := Aside0.mk h2_; clear hg_ h1_ h2_))
  go_upto_region 6 with (first | (go_at_call 19; (with_reducible refine (p_new A c l _ (Kd.C_below HR.out H2.out) HC.out HS.out HBB.out).mono ?_); rintro en w2 ⟨g, rfl, q1_, q2_, q3_, q4_⟩; have HP := Aside0.mk (PS.Nw.first HG.out H1.out H2.out q1_ q2_ q3_); clear q1_ q2_ q3_ q4_ H1 H2 HG))
  obtain ⟨c0, e_⟩ : ∃ z, z = (⟨l, false, 0⟩ : Cu) := ⟨_, rfl⟩
  rw [← e_] at HP
  have Ec0 := Aside0.mk e_
  clear e_
  go_upto_region 7 with (first | (go_at_call 20; obtain ⟨l0, h0⟩ := Cu.byteV_bd (PS.Nw.good HP.out); (with_reducible refine (PS.Nw.byte HP.out).mono ?_); rintro en w3 ⟨rfl, hp_⟩; obtain ⟨c1, ec_⟩ : ∃ z, z = c0.byteS := ⟨_, rfl⟩; rw [← ec_] at hp_; have Ec1 := Aside0.mk ec_; clear ec_; have n0_ := Aside0.mk hp_; clear HP hp_; have HP := n0_; clear n0_) | ((with_reducible refine gate_dst (N := 28) rfl ?_); refine ev_build ((zeroC.setIfInBounds 0 (.int .u8 43)).setIfInBounds 16 (.int .u8 c0.byteV)) rfl (by go_simp; first | rfl | done) ?_; intro cx hcx_; have M := Aside0.mk (show ∀ W, IsMsg W cx _ from fun W => by rw [hcx_]; exact (fun W => set_mei (set_code (zero_is W) (v := 43) (by decide)) ⟨l0, h0⟩) W); have NL := Aside0.mk (show NilL cx by rw [hcx_]; exact (PS.zero_nil.set (by decide)).set (by decide)); clear hcx_) | ((with_reducible refine gate_dst (N := 9) rfl ?_); refine ev_var (y := .tmp 28) rfl rfl rfl rfl rfl (M.out w0) rfl rfl ?_; intro gm w4 hg_ h1_ hb_; have hp_ := PS.Nw.new HP.out hg_ h1_ hb_ M.out NL.out; clear h1_ hb_ hg_; have n0_ := Aside0.mk hp_; clear HP hp_; have HP := n0_; clear n0_))
  simp only [Act.put, List.setIfInBounds_toArray, List.set_cons_zero, List.set_cons_succ]
  clear HR HC HS HBB M NL
  obtain ⟨c2, e_⟩ : ∃ z, z = c1.need (c0.byteV == 13 || c0.byteV == 14) 8 := ⟨_, rfl⟩
  have Ec2 := Aside0.mk e_
  clear e_
  obtain ⟨kmei, fmei⟩ := PS.St.at_mei HP.out
  go_cut [] from 29 to 38 (fun wx => Aside0 (PS.St w0 gr g gm wx c2 ({ zeroM with code := 43, mei := c0.byteV })))
  case first =>
    cases hs_ : (c0.byteV == 13) with
    | false =>
      have eb_ : (c0.byteV == 13 || c0.byteV == 14) = (c0.byteV == 14) := by first | (rw [hs_]; first | rfl | simp) | (rw [bne, hs_]; first | rfl | simp) | simp [hs_, bne]
      have hn_ : (c0.byteV != 13) = true := by rw [bne, hs_]; rfl
      have EB_ := Aside0.mk eb_
      clear eb_
      go_wp2_with (go_at_call 21; (with_reducible refine (PS.St.need HP.out (c0.byteV == 14) 8).mono ?_); rintro en x1 ⟨rfl, hp_⟩; have n0_ := Aside0.mk hp_; clear HP hp_; have HP := n0_; clear n0_)
      go_meet
      rw [Ec2.out, EB_.out]
      exact HP
    | true =>
      have eb_ : (c0.byteV == 13 || c0.byteV == 14) = (true) := by first | (rw [hs_]; first | rfl | simp) | (rw [bne, hs_]; first | rfl | simp) | simp [hs_, bne]
      have hn_ : (c0.byteV != 13) = false := by rw [bne, hs_]; rfl
      have EB_ := Aside0.mk eb_
      clear eb_
      go_wp2_with (go_at_call 21; (with_reducible refine (PS.St.need HP.out (true) 8).mono ?_); rintro en x1 ⟨rfl, hp_⟩; have n0_ := Aside0.mk hp_; clear HP hp_; have HP := n0_; clear n0_)
      go_meet
      rw [Ec2.out, EB_.out]
      exact HP
  case rest =>
  clear HP
  have HP := hcut
  clear hcut
  obtain ⟨kmei, fmei⟩ := PS.St.at_mei HP.out
  go_upto_if 41 with (fail)
  clear kmei fmei
  go_cut [] from 39 to 71 (fun wx => Aside0 (PS.St w0 gr g gm wx (body 0 43 l).1 (body 0 43 l).2))
  case first =>
    cases hs_ : (c0.byteV == 13) with
    | true =>
      have e13 : c0.byteV = 13 := by simpa using hs_
      have E13 := Aside0.mk e13
      clear e13
      go_upto_region 10 with (first | (go_at_call 22; (with_reducible refine (PS.St.left HP.out).mono ?_); rintro en x2 ⟨rfl, hp_⟩; have n0_ := Aside0.mk hp_; clear HP hp_; have HP := n0_; clear n0_) | (go_at_call 21; (with_reducible refine (PS.St.need HP.out (decide ((c2.xs.length : Int) ≤ 251)) 5).mono ?_); rintro en x3 ⟨rfl, hp_⟩; obtain ⟨c3, ec_⟩ : ∃ z, z = c2.need (decide ((c2.xs.length : Int) ≤ 251)) 5 := ⟨_, rfl⟩; rw [← ec_] at hp_; have Ec3 := Aside0.mk ec_; clear ec_; have n0_ := Aside0.mk hp_; clear HP hp_; have HP := n0_; clear n0_))
      have HBY := Aside0.mk (Cu.bytes_bytesV (PS.St.good HP.out) (c3.xs.length : Int))
      go_wp2_with (first | (go_at_call 22; (with_reducible refine (PS.St.left HP.out).mono ?_); rintro en x4 ⟨rfl, hp_⟩; have n0_ := Aside0.mk hp_; clear HP hp_; have HP := n0_; clear n0_; obtain ⟨Ad, nd, kd, fd⟩ := PS.St.at_data HP.out) | (go_at_call 23; (with_reducible refine (PS.St.bytes HP.out ((c3.xs.length : Int))).mono ?_); rintro en x5 ⟨A5, n5, rfl, hz_, hr_, hp_⟩; obtain ⟨c4, ec_⟩ : ∃ z, z = c3.bytesS ((c3.xs.length : Int)) := ⟨_, rfl⟩; rw [← ec_] at hp_; have Ec4 := Aside0.mk ec_; clear ec_; have R5 := Aside0.mk hr_; have R5z := Aside0.mk hz_; clear hr_ hz_; have n0_ := Aside0.mk hp_; clear HP hp_; have HP := n0_; clear n0_; obtain ⟨Ad, nd, kd, fd⟩ := PS.St.at_data HP.out))
      have hp_ := HP.out.put_data R5z.out HBY.out R5.out
      have n0_ := Aside0.mk hp_
      clear HP hp_
      have HP := n0_
      clear n0_
      go_meet
      have eq_ : (body 0 43 l) = (c4, { ({ zeroM with code := 43, mei := c0.byteV } : Msg) with data := c3.bytesV (c3.xs.length : Int) }) := by
        simp only [body]
        rw [← Ec0.out, ← Ec1.out, if_pos E13.out, ← Ec2.out, ← Ec3.out, ← Ec4.out]
      rw [eq_]
      exact HP
    | false =>
      have e13 : c0.byteV ≠ 13 := by simpa using hs_
      have E13 := Aside0.mk e13
      clear e13
      obtain ⟨kkind, fkind⟩ := PS.St.at_kind HP.out
      go_upto_region 12 with (first | (go_at_call 20; obtain ⟨l2, h2⟩ := Cu.byteV_bd (PS.St.good HP.out); (with_reducible refine (PS.St.byte HP.out).mono ?_); rintro en x2 ⟨rfl, hp_⟩; obtain ⟨c3, ec_⟩ : ∃ z, z = c2.byteS := ⟨_, rfl⟩; rw [← ec_] at hp_; have Ec3 := Aside0.mk ec_; clear ec_; obtain ⟨kkind, fkind⟩ := PS.St.at_kind hp_; have n0_ := Aside0.mk hp_; clear HP hp_; have HP := n0_; clear n0_))
      have hp_ := HP.out.put_kind ⟨l2, h2⟩
      obtain ⟨kkind, fkind⟩ := PS.St.at_kind hp_
      have n0_ := Aside0.mk hp_
      clear HP hp_
      have HP := n0_
      clear n0_
      obtain ⟨c4, e_⟩ : ∃ z, z = c3.need (decide (1 ≤ c2.byteV) && decide (c2.byteV ≤ 4)) 6 := ⟨_, rfl⟩
      have Ec4 := Aside0.mk e_
      clear e_
      obtain ⟨kkind, fkind⟩ := PS.St.at_kind HP.out
      go_cut [] from 55 to 64 (fun wx => Aside0 (PS.St w0 gr g gm wx c4 ({ ({ zeroM with code := 43, mei := c0.byteV } : Msg) with kind := c2.byteV })))
      case first =>
        cases hs_ : (decide (1 ≤ c2.byteV)) with
        | false =>
          have eb_ : (decide (1 ≤ c2.byteV) && decide (c2.byteV ≤ 4)) = (false) := by first | (rw [hs_]; first | rfl | simp) | (rw [bne, hs_]; first | rfl | simp) | simp [hs_, bne]
          have hg_ : decide (c2.byteV ≥ 1) = decide (1 ≤ c2.byteV) := rfl
          rw [hs_] at hg_
          have EB_ := Aside0.mk eb_
          clear eb_
          go_wp2_with (go_at_call 21; (with_reducible refine (PS.St.need HP.out (false) 6).mono ?_); rintro en x3 ⟨rfl, hp_⟩; have n0_ := Aside0.mk hp_; clear HP hp_; have HP := n0_; clear n0_)
          go_meet
          rw [Ec4.out, EB_.out]
          exact HP
        | true =>
          have eb_ : (decide (1 ≤ c2.byteV) && decide (c2.byteV ≤ 4)) = (decide (c2.byteV ≤ 4)) := by first | (rw [hs_]; first | rfl | simp) | (rw [bne, hs_]; first | rfl | simp) | simp [hs_, bne]
          have hg_ : decide (c2.byteV ≥ 1) = decide (1 ≤ c2.byteV) := rfl
          rw [hs_] at hg_
          have EB_ := Aside0.mk eb_
          clear eb_
          go_wp2_with (go_at_call 21; (with_reducible refine (PS.St.need HP.out (decide (c2.byteV ≤ 4)) 6).mono ?_); rintro en x3 ⟨rfl, hp_⟩; have n0_ := Aside0.mk hp_; clear HP hp_; have HP := n0_; clear n0_)
          go_meet
          rw [Ec4.out, EB_.out]
          exact HP
      case rest =>
      clear HP
      have HP := hcut
      clear hcut
      obtain ⟨knext, fnext⟩ := PS.St.at_next HP.out
      go_wp2_with (first | (go_at_call 20; obtain ⟨l4, h4⟩ := Cu.byteV_bd (PS.St.good HP.out); (with_reducible refine (PS.St.byte HP.out).mono ?_); rintro en x4 ⟨rfl, hp_⟩; obtain ⟨c5, ec_⟩ : ∃ z, z = c4.byteS := ⟨_, rfl⟩; rw [← ec_] at hp_; have Ec5 := Aside0.mk ec_; clear ec_; obtain ⟨knext, fnext⟩ := PS.St.at_next hp_; have n0_ := Aside0.mk hp_; clear HP hp_; have HP := n0_; clear n0_))
      have hp_ := HP.out.put_next ⟨l4, h4⟩
      have n0_ := Aside0.mk hp_
      clear HP hp_
      have HP := n0_
      clear n0_
      go_meet
      have eq_ : (body 0 43 l) = (c5, { ({ ({ zeroM with code := 43, mei := c0.byteV } : Msg) with kind := c2.byteV } : Msg) with next := c4.byteV }) := by
        simp only [body]
        rw [← Ec0.out, ← Ec1.out, if_neg E13.out, ← Ec2.out, ← Ec3.out, ← Ec4.out, ← Ec5.out]
        rfl
      rw [eq_]
      exact HP
  case rest =>
  clear HP Ec0 Ec1 Ec2
  have HP := hcut
  clear hcut
  obtain ⟨cb, e_⟩ : ∃ z, z = (body 0 43 l) := ⟨_, rfl⟩
  rw [← e_] at HP
  obtain ⟨c9, m9⟩ := cb
  have EB := Aside0.mk e_
  clear e_
  go_upto_region 17 with (first | (go_at_call 25; (with_reducible refine (PS.St.fin HP.out).mono ?_); rintro en x1 ⟨rfl, hp_⟩; obtain ⟨c10, ec_⟩ : ∃ z, z = c9.fin := ⟨_, rfl⟩; rw [← ec_] at hp_; have Ec10 := Aside0.mk ec_; clear ec_; have n0_ := Aside0.mk hp_; clear HP hp_; have HP := n0_; clear n0_))
  go_upto_region 18 with (first | (go_at_call 26; (with_reducible refine (PS.St.err HP.out).mono ?_); rintro en x2 ⟨rfl, hp_⟩; have n0_ := Aside0.mk hp_; clear HP hp_; have HP := n0_; clear n0_))
  have he1 : parse 0 43 l = if c10.e ≠ 0 then (zeroM, c10.e) else (m9, 0) := by
    simp only [parse]
    rw [← EB.out, ← Ec10.out]
    rfl
  by_cases h9 : c10.e = 0
  · have ex_ : parse 0 43 l = (m9, 0) := by rw [he1, if_neg (fun h => h h9)]
    have EX := Aside0.mk ex_
    have g1 : (c10.e != 0) = false := by rw [h9]; rfl
    have g2 : (c10.e == 0) = true := by rw [h9]; rfl
    clear h9 ex_ he1
    obtain ⟨cx, h_, hz_, hm_⟩ := PS.St.held2 HP.out
    have H := Aside0.mk h_
    have HZ := Aside0.mk hz_
    have HM := Aside0.mk hm_
    have HB := Aside0.mk HP.out.b
    clear h_ hz_ hm_ HP
    go_wp2_with (first | ((with_reducible refine gate_dst (N := 80) rfl ?_); refine ev_load (x := .tmp 9) rfl rfl rfl H.out (i := 1) rfl (HZ.out) ?_) | ((with_reducible refine gate_op (u := .store 30 (.tmp 6) (.tmp 80)) rfl ?_); refine ev_store rfl rfl rfl rfl H.out (i := 0) rfl rfl (HM.out _ ⟨rfl, rfl, rfl, Kept.refl _ _⟩) ?_; intro x91 h3_ h4_; have HE := Aside0.mk (HM.out _ h4_); clear h4_; have n0_ := Aside0.mk (h3_); clear H; have H := n0_; clear n0_; clear h3_))
    refine bodyPost_ret (results_ct rfl _ _ gr 30 _ (0, 0) _ rfl (H.out.at 0 rfl) Try.underlying30 rfl (msg_info (HZ.out))) rfl (by rw [EX.out]; exact ⟨_, rfl, HE.out, H.out.b⟩)
  · have ex_ : parse 0 43 l = (zeroM, c10.e) := by rw [he1, if_pos h9]
    have EX := Aside0.mk ex_
    have g1 : (c10.e != 0) = true := by simpa using h9
    have g2 : (c10.e == 0) = false := by simpa using h9
    clear h9 ex_ he1
    have H := Aside0.mk (PS.St.held HP.out)
    clear HP
    go_wp2_with (first | ((with_reducible refine gate_dst (N := 78) rfl ?_); refine ev_build (zeroC) rfl (by go_simp; first | rfl | done) ?_; intro cx hcx_; have M := Aside0.mk (show ∀ W, IsMsg W cx _ from fun W => by rw [hcx_]; exact zero_is W); clear hcx_) | ((with_reducible refine gate_op (u := .store 30 (.tmp 6) (.tmp 78)) rfl ?_); refine ev_store rfl rfl rfl rfl H.out (i := 0) rfl (rfl) (M.out w0) ?_; intro x90 h3_ h4_; have n0_ := Aside0.mk (h3_); clear H; have H := n0_; clear n0_; clear h3_ h4_))
    refine bodyPost_ret (results_ct rfl _ _ gr 30 _ (0, 0) _ rfl (H.out.at 0 rfl) Try.underlying30 rfl (msg_info ((M.out w0).size))) rfl (by rw [EX.out]; exact ⟨_, rfl, M.out _, H.out.b⟩)
set_option maxHeartbeats 16000000 in
set_option maxRecDepth 100000 in
theorem parse_go1 {A : Option Addr} {c : Nat} {l : List Int} {w0 : World} (hr : Kd.C (Kd.int .u8) w0 A l.length l) (hc : l.length ≤ c) (hs : l.length ≤ 1000000) (hb : isBytes l) :
    Calls Try.prog 12 #[.int .i64 1, .int .u8 43, .slice A l.length c] w0 fun en w' => ∃ cx, en = .returned (.tuple #[.agg cx, .int .i64 (parse 1 43 l).2]) ∧ IsMsg w' cx (parse 1 43 l).1 ∧ Below w0.heap.size w0 w' := by
  have HR := Aside0.mk hr
  have HC := Aside0.mk hc
  have HS := Aside0.mk hs
  have HBB := Aside0.mk hb
  clear hr hc hs hb
  go_enter Try.func12, Try.ntmps12
  go_upto_region 5 with (first | ((with_reducible refine gate_dst (N := 6) rfl ?_); refine ev_alloc rfl rfl ?_; intro gr w1 hg_ h1_ h2_; have HG := Aside0.mk hg_; have H1 := Aside0.mk h1_; have H2 := Aside0.mk h2_; clear hg_ h1_ h2_))
  go_upto_region 6 with (first | (go_at_call 19; (with_reducible refine (p_new A c l _ (Kd.C_below HR.out H2.out) HC.out HS.out HBB.out).mono ?_); rintro en w2 ⟨g, rfl, q1_, q2_, q3_, q4_⟩; have HP := Aside0.mk (PS.Nw.first HG.out H1.out H2.out q1_ q2_ q3_); clear q1_ q2_ q3_ q4_ H1 H2 HG))
  obtain ⟨c0, e_⟩ : ∃ z, z = (⟨l, false, 0⟩ : Cu) := ⟨_, rfl⟩
  rw [← e_] at HP
  have Ec0 := Aside0.mk e_
  clear e_
  go_upto_region 7 with (first | (go_at_call 20; obtain ⟨l0, h0⟩ := Cu.byteV_bd (PS.Nw.good HP.out); (with_reducible refine (PS.Nw.byte HP.out).mono ?_); rintro en w3 ⟨rfl, hp_⟩; obtain ⟨c1, ec_⟩ : ∃ z, z = c0.byteS := ⟨_, rfl⟩; rw [← ec_] at hp_; have Ec1 := Aside0.mk ec_; clear ec_; have n0_ := Aside0.mk hp_; clear HP hp_; have HP := n0_; clear n0_) | ((with_reducible refine gate_dst (N := 28) rfl ?_); refine ev_build ((zeroC.setIfInBounds 0 (.int .u8 43)).setIfInBounds 16 (.int .u8 c0.byteV)) rfl (by go_simp; first | rfl | done) ?_; intro cx hcx_; have M := Aside0.mk (show ∀ W, IsMsg W cx _ from fun W => by rw [hcx_]; exact (fun W => set_mei (set_code (zero_is W) (v := 43) (by decide)) ⟨l0, h0⟩) W); have NL := Aside0.mk (show NilL cx by rw [hcx_]; exact (PS.zero_nil.set (by decide)).set (by decide)); clear hcx_) | ((with_reducible refine gate_dst (N := 9) rfl ?_); refine ev_var (y := .tmp 28) rfl rfl rfl rfl rfl (M.out w0) rfl rfl ?_; intro gm w4 hg_ h1_ hb_; have hp_ := PS.Nw.new HP.out hg_ h1_ hb_ M.out NL.out; clear h1_ hb_ hg_; have n0_ := Aside0.mk hp_; clear HP hp_; have HP := n0_; clear n0_))
  simp only [Act.put, List.setIfInBounds_toArray, List.set_cons_zero, List.set_cons_succ]
  clear HR HC HS HBB M NL
  obtain ⟨c2, e_⟩ : ∃ z, z = c1.need (c0.byteV == 13 || c0.byteV == 14) 8 := ⟨_, rfl⟩
  have Ec2 := Aside0.mk e_
  clear e_
  obtain ⟨kmei, fmei⟩ := PS.St.at_mei HP.out
  go_cut [] from 29 to 38 (fun wx => Aside0 (PS.St w0 gr g gm wx c2 ({ zeroM with code := 43, mei := c0.byteV })))
  case first =>
    cases hs_ : (c0.byteV == 13) with
    | false =>
      have eb_ : (c0.byteV == 13 || c0.byteV == 14) = (c0.byteV == 14) := by first | (rw [hs_]; first | rfl | simp) | (rw [bne, hs_]; first | rfl | simp) | simp [hs_, bne]
      have hn_ : (c0.byteV != 13) = true := by rw [bne, hs_]; rfl
      have EB_ := Aside0.mk eb_
      clear eb_
      go_wp2_with (go_at_call 21; (with_reducible refine (PS.St.need HP.out (c0.byteV == 14) 8).mono ?_); rintro en x1 ⟨rfl, hp_⟩; have n0_ := Aside0.mk hp_; clear HP hp_; have HP := n0_; clear n0_)
      go_meet
      rw [Ec2.out, EB_.out]
      exact HP
    | true =>
      have eb_ : (c0.byteV == 13 || c0.byteV == 14) = (true) := by first | (rw [hs_]; first | rfl | simp) | (rw [bne, hs_]; first | rfl | simp) | simp [hs_, bne]
      have hn_ : (c0.byteV != 13) = false := by rw [bne, hs_]; rfl
      have EB_ := Aside0.mk eb_
      clear eb_
      go_wp2_with (go_at_call 21; (with_reducible refine (PS.St.need HP.out (true) 8).mono ?_); rintro en x1 ⟨rfl, hp_⟩; have n0_ := Aside0.mk hp_; clear HP hp_; have HP := n0_; clear n0_)
      go_meet
      rw [Ec2.out, EB_.out]
      exact HP
  case rest =>
  clear HP
  have HP := hcut
  clear hcut
  obtain ⟨kmei, fmei⟩ := PS.St.at_mei HP.out
  go_upto_if 41 with (fail)
  clear kmei fmei
  go_cut [] from 39 to 71 (fun wx => Aside0 (PS.St w0 gr g gm wx (body 1 43 l).1 (body 1 43 l).2))
  case first =>
    cases hs_ : (c0.byteV == 13) with
    | true =>
      have e13 : c0.byteV = 13 := by simpa using hs_
      have E13 := Aside0.mk e13
      clear e13
      go_upto_region 10 with (first | (go_at_call 22; (with_reducible refine (PS.St.left HP.out).mono ?_); rintro en x2 ⟨rfl, hp_⟩; have n0_ := Aside0.mk hp_; clear HP hp_; have HP := n0_; clear n0_) | (go_at_call 21; (with_reducible refine (PS.St.need HP.out (decide ((c2.xs.length : Int) ≤ 251)) 5).mono ?_); rintro en x3 ⟨rfl, hp_⟩; obtain ⟨c3, ec_⟩ : ∃ z, z = c2.need (decide ((c2.xs.length : Int) ≤ 251)) 5 := ⟨_, rfl⟩; rw [← ec_] at hp_; have Ec3 := Aside0.mk ec_; clear ec_; have n0_ := Aside0.mk hp_; clear HP hp_; have HP := n0_; clear n0_))
      have HBY := Aside0.mk (Cu.bytes_bytesV (PS.St.good HP.out) (c3.xs.length : Int))
      go_wp2_with (first | (go_at_call 22; (with_reducible refine (PS.St.left HP.out).mono ?_); rintro en x4 ⟨rfl, hp_⟩; have n0_ := Aside0.mk hp_; clear HP hp_; have HP := n0_; clear n0_; obtain ⟨Ad, nd, kd, fd⟩ := PS.St.at_data HP.out) | (go_at_call 23; (with_reducible refine (PS.St.bytes HP.out ((c3.xs.length : Int))).mono ?_); rintro en x5 ⟨A5, n5, rfl, hz_, hr_, hp_⟩; obtain ⟨c4, ec_⟩ : ∃ z, z = c3.bytesS ((c3.xs.length : Int)) := ⟨_, rfl⟩; rw [← ec_] at hp_; have Ec4 := Aside0.mk ec_; clear ec_; have R5 := Aside0.mk hr_; have R5z := Aside0.mk hz_; clear hr_ hz_; have n0_ := Aside0.mk hp_; clear HP hp_; have HP := n0_; clear n0_; obtain ⟨Ad, nd, kd, fd⟩ := PS.St.at_data HP.out))
      have hp_ := HP.out.put_data R5z.out HBY.out R5.out
      have n0_ := Aside0.mk hp_
      clear HP hp_
      have HP := n0_
      clear n0_
      go_meet
      have eq_ : (body 1 43 l) = (c4, { ({ zeroM with code := 43, mei := c0.byteV } : Msg) with data := c3.bytesV (c3.xs.length : Int) }) := by
        simp only [body]
        rw [← Ec0.out, ← Ec1.out, if_pos E13.out, ← Ec2.out, ← Ec3.out, ← Ec4.out]
      rw [eq_]
      exact HP
    | false =>
      have e13 : c0.byteV ≠ 13 := by simpa using hs_
      have E13 := Aside0.mk e13
      clear e13
      obtain ⟨kkind, fkind⟩ := PS.St.at_kind HP.out
      go_upto_region 12 with (first | (go_at_call 20; obtain ⟨l2, h2⟩ := Cu.byteV_bd (PS.St.good HP.out); (with_reducible refine (PS.St.byte HP.out).mono ?_); rintro en x2 ⟨rfl, hp_⟩; obtain ⟨c3, ec_⟩ : ∃ z, z = c2.byteS := ⟨_, rfl⟩; rw [← ec_] at hp_; have Ec3 := Aside0.mk ec_; clear ec_; obtain ⟨kkind, fkind⟩ := PS.St.at_kind hp_; have n0_ := Aside0.mk hp_; clear HP hp_; have HP := n0_; clear n0_))
      have hp_ := HP.out.put_kind ⟨l2, h2⟩
      obtain ⟨kkind, fkind⟩ := PS.St.at_kind hp_
      have n0_ := Aside0.mk hp_
      clear HP hp_
      have HP := n0_
      clear n0_
      obtain ⟨c4, e_⟩ : ∃ z, z = c3.need (decide (1 ≤ c2.byteV) && decide (c2.byteV ≤ 4)) 6 := ⟨_, rfl⟩
      have Ec4 := Aside0.mk e_
      clear e_
      obtain ⟨kkind, fkind⟩ := PS.St.at_kind HP.out
      go_cut [] from 55 to 64 (fun wx => Aside0 (PS.St w0 gr g gm wx c4 ({ ({ zeroM with code := 43, mei := c0.byteV } : Msg) with kind := c2.byteV })))
      case first =>
        cases hs_ : (decide (1 ≤ c2.byteV)) with
        | false =>
          have eb_ : (decide (1 ≤ c2.byteV) && decide (c2.byteV ≤ 4)) = (false) := by first | (rw [hs_]; first | rfl | simp) | (rw [bne, hs_]; first | rfl | simp) | simp [hs_, bne]
          have hg_ : decide (c2.byteV ≥ 1) = decide (1 ≤ c2.byteV) := rfl
          rw [hs_] at hg_
          have EB_ := Aside0.mk eb_
          clear eb_
          go_wp2_with (go_at_call 21; (with_reducible refine (PS.St.need HP.out (false) 6).mono ?_); rintro en x3 ⟨rfl, hp_⟩; have n0_ := Aside0.mk hp_; clear HP hp_; have HP := n0_; clear n0_)
          go_meet
          rw [Ec4.out, EB_.out]
          exact HP
        | true =>
          have eb_ : (decide (1 ≤ c2.byteV) && decide (c2.byteV ≤ 4)) = (decide (c2.byteV ≤ 4)) := by first | (rw [hs_]; first | rfl | simp) | (rw [bne, hs_]; first | rfl | simp) | simp [hs_, bne]
          have hg_ : decide (c2.byteV ≥ 1) = decide (1 ≤ c2.byteV) := rfl
          rw [hs_] at hg_
          have EB_ := Aside0.mk eb_
          clear eb_
          go_wp2_with (go_at_call 21; (with_reducible refine (PS.St.need HP.out (decide (c2.byteV ≤ 4)) 6).mono ?_); rintro en x3 ⟨rfl, hp_⟩; have n0_ := Aside0.mk hp_; clear HP hp_; have HP := n0_; clear n0_)
          go_meet
          rw [Ec4.out, EB_.out]
          exact HP
      case rest =>
      clear HP
      have HP := hcut
      clear hcut
      go_wp2_with (first | (go_at_call 24; (with_reducible refine (answer_any HP.out rfl).mono ?_); rintro en x95 ⟨rfl, hp_⟩; have n0_ := Aside0.mk hp_; clear HP hp_; have HP := n0_; clear n0_))
      go_meet
      have eq_ : (body 1 43 l) = ans c4 ({ ({ zeroM with code := 43, mei := c0.byteV } : Msg) with kind := c2.byteV }) := by
        simp only [body]
        rw [← Ec0.out, ← Ec1.out, if_neg E13.out, ← Ec2.out, ← Ec3.out, ← Ec4.out]
        rfl
      rw [eq_]
      exact HP
  case rest =>
  clear HP Ec0 Ec1 Ec2
  have HP := hcut
  clear hcut
  obtain ⟨cb, e_⟩ : ∃ z, z = (body 1 43 l) := ⟨_, rfl⟩
  rw [← e_] at HP
  obtain ⟨c9, m9⟩ := cb
  have EB := Aside0.mk e_
  clear e_
  go_upto_region 17 with (first | (go_at_call 25; (with_reducible refine (PS.St.fin HP.out).mono ?_); rintro en x1 ⟨rfl, hp_⟩; obtain ⟨c10, ec_⟩ : ∃ z, z = c9.fin := ⟨_, rfl⟩; rw [← ec_] at hp_; have Ec10 := Aside0.mk ec_; clear ec_; have n0_ := Aside0.mk hp_; clear HP hp_; have HP := n0_; clear n0_))
  go_upto_region 18 with (first | (go_at_call 26; (with_reducible refine (PS.St.err HP.out).mono ?_); rintro en x2 ⟨rfl, hp_⟩; have n0_ := Aside0.mk hp_; clear HP hp_; have HP := n0_; clear n0_))
  have he1 : parse 1 43 l = if c10.e ≠ 0 then (zeroM, c10.e) else (m9, 0) := by
    simp only [parse]
    rw [← EB.out, ← Ec10.out]
    rfl
  by_cases h9 : c10.e = 0
  · have ex_ : parse 1 43 l = (m9, 0) := by rw [he1, if_neg (fun h => h h9)]
    have EX := Aside0.mk ex_
    have g1 : (c10.e != 0) = false := by rw [h9]; rfl
    have g2 : (c10.e == 0) = true := by rw [h9]; rfl
    clear h9 ex_ he1
    obtain ⟨cx, h_, hz_, hm_⟩ := PS.St.held2 HP.out
    have H := Aside0.mk h_
    have HZ := Aside0.mk hz_
    have HM := Aside0.mk hm_
    have HB := Aside0.mk HP.out.b
    clear h_ hz_ hm_ HP
    go_wp2_with (first | ((with_reducible refine gate_dst (N := 80) rfl ?_); refine ev_load (x := .tmp 9) rfl rfl rfl H.out (i := 1) rfl (HZ.out) ?_) | ((with_reducible refine gate_op (u := .store 30 (.tmp 6) (.tmp 80)) rfl ?_); refine ev_store rfl rfl rfl rfl H.out (i := 0) rfl rfl (HM.out _ ⟨rfl, rfl, rfl, Kept.refl _ _⟩) ?_; intro x91 h3_ h4_; have HE := Aside0.mk (HM.out _ h4_); clear h4_; have n0_ := Aside0.mk (h3_); clear H; have H := n0_; clear n0_; clear h3_))
    refine bodyPost_ret (results_ct rfl _ _ gr 30 _ (0, 0) _ rfl (H.out.at 0 rfl) Try.underlying30 rfl (msg_info (HZ.out))) rfl (by rw [EX.out]; exact ⟨_, rfl, HE.out, H.out.b⟩)
  · have ex_ : parse 1 43 l = (zeroM, c10.e) := by rw [he1, if_pos h9]
    have EX := Aside0.mk ex_
    have g1 : (c10.e != 0) = true := by simpa using h9
    have g2 : (c10.e == 0) = false := by simpa using h9
    clear h9 ex_ he1
    have H := Aside0.mk (PS.St.held HP.out)
    clear HP
    go_wp2_with (first | ((with_reducible refine gate_dst (N := 78) rfl ?_); refine ev_build (zeroC) rfl (by go_simp; first | rfl | done) ?_; intro cx hcx_; have M := Aside0.mk (show ∀ W, IsMsg W cx _ from fun W => by rw [hcx_]; exact zero_is W); clear hcx_) | ((with_reducible refine gate_op (u := .store 30 (.tmp 6) (.tmp 78)) rfl ?_); refine ev_store rfl rfl rfl rfl H.out (i := 0) rfl (rfl) (M.out w0) ?_; intro x90 h3_ h4_; have n0_ := Aside0.mk (h3_); clear H; have H := n0_; clear n0_; clear h3_ h4_))
    refine bodyPost_ret (results_ct rfl _ _ gr 30 _ (0, 0) _ rfl (H.out.at 0 rfl) Try.underlying30 rfl (msg_info ((M.out w0).size))) rfl (by rw [EX.out]; exact ⟨_, rfl, M.out _, H.out.b⟩)
theorem parse_any {dir code : Int} {A : Option Addr} {c : Nat} {l : List Int} {w0 : World} (hr : Kd.C (Kd.int .u8) w0 A l.length l) (hc : l.length ≤ c) (hs : l.length ≤ 1000000) (hb : isBytes l) :
    Calls Try.prog 12 #[.int .i64 dir, .int .u8 code, .slice A l.length c] w0 fun en w' => ∃ cx, en = .returned (.tuple #[.agg cx, .int .i64 (parse dir code l).2]) ∧ IsMsg w' cx (parse dir code l).1 ∧ Below w0.heap.size w0 w' := by
  by_cases h0 : dir = 0
  · subst h0
    by_cases h1 : code = 43
    · subst h1; exact parse_go0 hr hc hs hb
    · have e : parse 0 code l = (zeroM, 4) := by unfold parse; rw [if_neg (by simp), if_pos h1]
      rw [e]; exact parse_code0 hr hc hs hb h1
  by_cases h1 : dir = 1
  · subst h1
    by_cases h1 : code = 43
    · subst h1; exact parse_go1 hr hc hs hb
    · have e : parse 1 code l = (zeroM, 4) := by unfold parse; rw [if_neg (by simp), if_pos h1]
      rw [e]; exact parse_code1 hr hc hs hb h1
  have e : parse dir code l = (zeroM, 1) := by unfold parse; rw [if_pos ⟨h0, h1⟩]
  rw [e]; exact parse_dir hr hc hs hb h0 h1
end Go.Proofs.Ytimclbhlgblifaa.Mei
end
section
namespace Go.Proofs.Ytimclbhlgblifaa.QS
open Go.RowKit Go.Proofs.Ytimclbhlgblifaa.P Go.Proofs.Ytimclbhlgblifaa.E Go.Proofs.Ytimclbhlgblifaa.Cur Go.Proofs.Ytimclbhlgblifaa.RCur Go.Proofs.Ytimclbhlgblifaa.Cu Go.Proofs.Ytimclbhlgblifaa.Same Go.Proofs.YtimclbhlgblifaaW.PrintWords Go.Proofs.YtimclbhlgblifaaW.PrintLast Go.Proofs.YtimclbhlgblifaaW.PrintMore
structure St (w0 : World) (gr g gm : Nat) (w : World) (c : Cu) (m : Msg) : Prop where
  b : Below w0.heap.size w0 w
  cur : QAt w0.heap.size w g c
  cx : ∃ cx, w.heap[gm]? = some (.cells cx 30 (0, 0)) ∧ ∀ W', Kept w W' (fun k => k = g ∨ k = gm ∨ k = gr) → IsMsg W' cx m
  res : w.heap[gr]? = some (.cells zeroC 30 (0, 0))
  h1 : w0.heap.size ≤ g ∧ w0.heap.size ≤ gm ∧ w0.heap.size ≤ gr
  h2 : gm ≠ g ∧ gr ≠ g ∧ gr ≠ gm
  nl : ∃ cx, w.heap[gm]? = some (.cells cx 30 (0, 0)) ∧ NilL cx
section
variable {w0 w w' : World} {gr g gm : Nat} {c c' : Cu} {m m' : Msg}
end
structure Nw (w0 : World) (gr g : Nat) (w : World) (c : Cu) : Prop where
  b : Below w0.heap.size w0 w
  cur : QAt w0.heap.size w g c
  res : w.heap[gr]? = some (.cells zeroC 30 (0, 0))
  h1 : w0.heap.size ≤ g ∧ w0.heap.size ≤ gr
  h2 : gr ≠ g
end Go.Proofs.Ytimclbhlgblifaa.QS
end
section
namespace Go.Proofs.Ytimclbhlgblifaa.QS
open Go.RowKit Go.Proofs.Ytimclbhlgblifaa.P Go.Proofs.Ytimclbhlgblifaa.E Go.Proofs.Ytimclbhlgblifaa.Cur Go.Proofs.Ytimclbhlgblifaa.RCur Go.Proofs.Ytimclbhlgblifaa.Cu Go.Proofs.Ytimclbhlgblifaa.Same Go.Proofs.YtimclbhlgblifaaW.PrintWords Go.Proofs.YtimclbhlgblifaaW.PrintLast Go.Proofs.YtimclbhlgblifaaW.PrintMore
structure StO (w0 : World) (gr g gm B1 : Nat) (w : World) (c : Cu) (m : Msg) (raws : List RawO) (os : List S43) (v : Value) : Prop where
  b : Below w0.heap.size w0 w
  cur : QAt w0.heap.size w g c
  cx : ∃ cx, w.heap[gm]? = some (.cells (cx.setIfInBounds 21 v) 30 (0, 0)) ∧ ∀ W', Kept w W' (fun k => k = g ∨ k = gm ∨ k = gr ∨ v.ownBlock = some k) → IsMsg W' cx m
  res : w.heap[gr]? = some (.cells zeroC 30 (0, 0))
  h1 : w0.heap.size ≤ g ∧ w0.heap.size ≤ gm ∧ w0.heap.size ≤ gr
  h2 : gm ≠ g ∧ gr ≠ g ∧ gr ≠ gm
  h3 : g < B1 ∧ gm < B1 ∧ gr < B1 ∧ B1 ≤ w.heap.size
  row : Kd.R kRawO 43 w w0.heap.size (fun k => B1 ≤ k) v raws
  zip : Zip (fun r o => goodO o ∧ ∀ W', Kept w W' (fun k => k = g ∨ k = gm ∨ k = gr ∨ v.ownBlock = some k) → FitsO W' r o) raws os
  nl : ∃ cx, w.heap[gm]? = some (.cells cx 30 (0, 0)) ∧ NilL cx
  nv : raws = [] → v = .slice none 0 0
section
variable {w0 w w' : World} {gr g gm B1 : Nat} {c c' : Cu} {m m' : Msg} {raws : List RawO} {os : List S43} {v : Value}
end
end Go.Proofs.Ytimclbhlgblifaa.QS
end
section
namespace Go.Proofs.Ytimclbhlgblifaa.MeiR
open Go.RowKit Go.Proofs.Ytimclbhlgblifaa.P Go.Proofs.Ytimclbhlgblifaa.E Go.Proofs.Ytimclbhlgblifaa.Cur Go.Proofs.Ytimclbhlgblifaa.Cu Go.Proofs.Ytimclbhlgblifaa.Same Go.Proofs.Ytimclbhlgblifaa.Code Go.Proofs.Ytimclbhlgblifaa.Mei Go.Proofs.YtimclbhlgblifaaW.PrintWords Go.Proofs.YtimclbhlgblifaaW.PrintLast Go.Proofs.YtimclbhlgblifaaW.PrintMore
end Go.Proofs.Ytimclbhlgblifaa.MeiR
end
section
namespace Go.Proofs.Ytimclbhlgblifaa.Cu
open Go.RowKit Go.Proofs.Ytimclbhlgblifaa.E Go.Proofs.Ytimclbhlgblifaa.Cur Go.Proofs.YtimclbhlgblifaaW.PrintWords Go.Proofs.YtimclbhlgblifaaW.PrintLast Go.Proofs.YtimclbhlgblifaaW.PrintMore
def cu (l : List Int) : Cu := ⟨l, false, 0⟩
theorem need_true (c : Cu) (f : Int) : c.need true f = c := by unfold Cu.need; simp
theorem need_dead {c : Cu} (h : c.e ≠ 0) (ok : Bool) (f : Int) : c.need ok f = c := by
  unfold Cu.need
  rw [if_neg (fun hh => h hh.1)]
theorem bytesS_dead {c : Cu} (h : c.e ≠ 0) (n : Int) : (c.bytesS n).e = c.e := by
  unfold Cu.bytesS
  split
  · rfl
  · simp only [Cu.fail, fstE]
    rw [if_neg h]
theorem need_ok {c : Cu} {ok : Bool} {f : Int} (hf : f ≠ 0) (h : (c.need ok f).e = 0) : c.e = 0 ∧ ok = true ∧ c.need ok f = c := by
  cases ok with
  | true => rw [need_true] at h ⊢; exact ⟨h, rfl, rfl⟩
  | false =>
    by_cases he : c.e = 0
    · exfalso
      unfold Cu.need at h
      rw [if_pos ⟨he, rfl⟩] at h
      exact hf h
    · rw [need_dead he] at h
      exact absurd h he
theorem need_ok' {xs : List Int} {ok : Bool} {f : Int} (h : ((cu xs).need ok f).e = 0) : (cu xs).need ok f = cu xs := by
  cases ok with
  | true => exact need_true _ _
  | false =>
    unfold Cu.need cu at h ⊢
    simp only [and_self, if_true] at h ⊢
    rw [h]
theorem bytes_ok {c : Cu} {n : Int} (h : (c.bytesS n).e = 0) : c.e = 0 ∧ c.s = false ∧ 0 ≤ n ∧ n ≤ (c.xs.length : Int) ∧ c.bytesS n = cu (c.xs.drop n.toNat) ∧ c.bytesV n = c.xs.take n.toNat := by
  have he : c.e = 0 := by
    by_cases he : c.e = 0
    · exact he
    · rw [bytesS_dead he] at h; exact h
  by_cases hk : c.okB n = true
  · obtain ⟨h1, h2, h3⟩ := (Cu.okB_iff c n).1 hk
    refine ⟨he, h1, h2, h3, ?_, ?_⟩
    · unfold Cu.bytesS cu; rw [if_pos hk, h1, he]
    · unfold Cu.bytesV; rw [if_pos hk]
  · exfalso
    unfold Cu.bytesS at h
    rw [if_neg hk] at h
    simp only [Cu.fail, fstE] at h
    rw [if_pos he] at h
    exact absurd h (by decide)
theorem byte_ok {c : Cu} (h : c.byteS.e = 0) : c.e = 0 ∧ c.s = false ∧ ∃ t, c.xs = c.byteV :: t ∧ c.byteS = cu t := by
  obtain ⟨h1, h2, h3, h4, h5, h6⟩ := bytes_ok (n := 1) h
  cases hx : c.xs with
  | nil => rw [hx] at h4; simp at h4
  | cons x t =>
    refine ⟨h1, h2, t, ?_, ?_⟩
    · unfold Cu.byteV; rw [h6, hx]; rfl
    · show c.bytesS 1 = _
      rw [h5, hx]; rfl
theorem fin_ok {c : Cu} (h : c.fin.e = 0) : c.e = 0 ∧ c.xs = [] := by
  obtain ⟨h1, h2, h3⟩ := need_ok (by decide) h
  exact ⟨h1, by simpa using h2⟩
theorem fin_dead {c : Cu} (h : c.e ≠ 0) : c.fin.e = c.e := by
  show (c.need _ 3).e = _
  rw [need_dead h]
theorem okB_cu (l : List Int) (n : Nat) (h : n ≤ l.length) : (cu l).okB (n : Int) = true := by
  rw [Cu.okB_iff]
  exact ⟨rfl, by omega, by show (n : Int) ≤ (l.length : Int); omega⟩
theorem bytesV_app (u t : List Int) {n : Int} (hn : n = (u.length : Int)) : (cu (u ++ t)).bytesV n = u := by
  subst hn
  unfold Cu.bytesV
  rw [if_pos (okB_cu _ _ (by simp))]
  show (u ++ t).take (u.length : Int).toNat = u
  simp
theorem bytesS_app (u t : List Int) {n : Int} (hn : n = (u.length : Int)) : (cu (u ++ t)).bytesS n = cu t := by
  subst hn
  unfold Cu.bytesS
  rw [if_pos (okB_cu _ _ (by simp))]
  show (⟨(u ++ t).drop (u.length : Int).toNat, _, _⟩ : Cu) = _
  simp [cu]
theorem bytesS_cut {l : List Int} {n : Int} (h : (l.length : Int) < n ∨ n < 0) : ((cu l).bytesS n).e = 2 := by
  unfold Cu.bytesS
  have hk : ¬ (cu l).okB n = true := fun hk => by
    obtain ⟨_, h2, h3⟩ := (Cu.okB_iff _ _).1 hk
    have h3 : n ≤ (l.length : Int) := h3
    omega
  rw [if_neg hk]
  rfl
theorem byteV_cons (x : Int) (t : List Int) : (cu (x :: t)).byteV = x := by
  show ((cu ([x] ++ t)).bytesV 1).headD 0 = x
  have h := bytesV_app [x] t (n := 1) rfl
  rw [h]
  rfl
theorem byteS_cons (x : Int) (t : List Int) : (cu (x :: t)).byteS = cu t := bytesS_app [x] t rfl
theorem fin_cu_cons (x : Int) (t : List Int) : (cu (x :: t)).fin.e = 3 := by
  show ((cu (x :: t)).need _ 3).e = 3
  unfold Cu.need cu
  simp
section
variable {α β : Type}
def Rd.ret (a : α) : (Cu → Cu × α) := fun c => (c, a)
def Rd.bind (r : (Cu → Cu × α)) (f : α → (Cu → Cu × β)) : (Cu → Cu × β) := fun c => f (r c).2 (r c).1
def Rd.byte : (Cu → Cu × Int) := fun c => (c.byteS, c.byteV)
def Rd.need (ok : Bool) (f : Int) : (Cu → Cu × Unit) := fun c => (c.need ok f, ())
def Rd.bytes (n : Int) : (Cu → Cu × (List Int)) := fun c => (c.bytesS n, c.bytesV n)
structure Cl (r : (Cu → Cu × α)) : Prop where
  dead : ∀ c : Cu, c.e ≠ 0 → (r c).1.e = c.e
  ok : ∀ xs : List Int, (r (cu xs)).1.e = 0 → ∃ u t, xs = u ++ t ∧ (∀ t', r (cu (u ++ t')) = (cu t', (r (cu xs)).2)) ∧ ∀ k, k < u.length → (r (cu (u.take k))).1.e = 2
theorem Cl.ret (a : α) : Cl (Rd.ret a) := ⟨fun _ _ => rfl, fun xs _ => ⟨[], xs, rfl, fun _ => rfl, fun k hk => absurd hk (Nat.not_lt_zero k)⟩⟩
theorem Cl.need (ok : Bool) (f : Int) : Cl (Rd.need ok f) := by
  refine ⟨fun c h => by show (c.need ok f).e = c.e; rw [need_dead h], fun xs h => ⟨[], xs, rfl, fun t => ?_, fun k hk => absurd hk (Nat.not_lt_zero k)⟩⟩
  have e := need_ok' (xs := xs) h
  show ((cu t).need ok f, ()) = _
  cases ok with
  | true => rw [need_true]
  | false =>
    have hf : f = 0 := by
      have h : ((cu xs).need false f).e = 0 := h
      unfold Cu.need cu at h
      simpa using h
    subst hf
    first | rfl | done
theorem Cl.bind {r : (Cu → Cu × α)} {f : α → (Cu → Cu × β)} (hr : Cl r) (hf : ∀ a, Cl (f a)) : Cl (Rd.bind r f) := by
  refine ⟨fun c h => ?_, fun xs h => ?_⟩
  · have h1 := hr.dead c h
    show (f (r c).2 (r c).1).1.e = c.e
    rw [(hf _).dead _ (by rw [h1]; exact h), h1]
  · have h : (f (r (cu xs)).2 (r (cu xs)).1).1.e = 0 := h
    have h1 : (r (cu xs)).1.e = 0 := by
      by_cases h1 : (r (cu xs)).1.e = 0
      · exact h1
      · rw [(hf _).dead _ h1] at h; exact h
    obtain ⟨u, t, e1, e2, e3⟩ := hr.ok xs h1
    have e4 := e2 t
    rw [← e1] at e4
    have e5 : (r (cu xs)).1 = cu t := by rw [e4]
    rw [e5] at h
    obtain ⟨u', t', e6, e7, e8⟩ := (hf (r (cu xs)).2).ok t h
    refine ⟨u ++ u', t', by rw [e1, e6, List.append_assoc], fun t2 => ?_, fun k hk => ?_⟩
    · show f (r (cu (u ++ u' ++ t2))).2 (r (cu (u ++ u' ++ t2))).1 = (cu t2, (f (r (cu xs)).2 (r (cu xs)).1).2)
      rw [List.append_assoc, e2, e5]
      exact e7 t2
    · show (f (r (cu ((u ++ u').take k))).2 (r (cu ((u ++ u').take k))).1).1.e = 2
      by_cases hk1 : k < u.length
      · have e9 := e3 k hk1
        rw [List.take_append_of_le_length (by omega), (hf _).dead _ (by rw [e9]; decide), e9]
      · have e9 : (u ++ u').take k = u ++ u'.take (k - u.length) := by
          rw [List.take_append, List.take_of_length_le (by omega)]
        rw [e9, e2]
        exact e8 _ (by rw [List.length_append] at hk; omega)
theorem Cl.bytes (n : Int) : Cl (Rd.bytes n) := by
  refine ⟨fun c h => bytesS_dead h n, fun xs h => ?_⟩
  obtain ⟨h1, h2, h3, h4, h5, h6⟩ := bytes_ok (c := cu xs) h
  have h4 : n ≤ (xs.length : Int) := h4
  have hl : n = ((xs.take n.toNat).length : Int) := by rw [List.length_take]; omega
  refine ⟨xs.take n.toNat, xs.drop n.toNat, (List.take_append_drop _ _).symm, fun t => ?_, fun k hk => ?_⟩
  · show ((cu (xs.take n.toNat ++ t)).bytesS n, (cu (xs.take n.toNat ++ t)).bytesV n) = (cu t, (cu xs).bytesV n)
    rw [bytesS_app _ _ hl, bytesV_app _ _ hl, h6]
    rfl
  · refine bytesS_cut (.inl ?_)
    rw [List.length_take]
    omega
theorem Cl.byte : Cl Rd.byte := by
  refine ⟨fun c h => bytesS_dead h 1, fun xs h => ?_⟩
  obtain ⟨h1, h2, t, h3, h4⟩ := byte_ok (c := cu xs) h
  have h3 : xs = (cu xs).byteV :: t := h3
  refine ⟨[(cu xs).byteV], t, h3, fun t' => ?_, fun k hk => ?_⟩
  · show ((cu ((cu xs).byteV :: t')).byteS, (cu ((cu xs).byteV :: t')).byteV) = (cu t', (cu xs).byteV)
    rw [byteS_cons, byteV_cons]
  · have : k = 0 := by simpa using hk
    subst this
    exact bytesS_cut (n := 1) (.inl (by simp))
theorem Cl.ite {c : Prop} [Decidable c] {r s : (Cu → Cu × α)} (hr : Cl r) (hs : Cl s) : Cl (if c then r else s) := by
  split
  · exact hr
  · exact hs
theorem Cl.cut {r : (Cu → Cu × α)} (hr : Cl r) {l : List Int} (h : (r (cu l)).1.fin.e = 0) {k : Nat} (hk : k < l.length) : (r (cu (l.take k))).1.fin.e = 2 := by
  obtain ⟨h1, h2⟩ := fin_ok h
  obtain ⟨u, t, e1, e2, e3⟩ := hr.ok l h1
  have e4 := e2 t
  rw [← e1] at e4
  rw [e4] at h2
  have h2 : t = [] := h2
  rw [h2, List.append_nil] at e1
  rw [e1] at hk ⊢
  have e5 := e3 k hk
  rw [fin_dead (by rw [e5]; decide), e5]
theorem Cl.more {r : (Cu → Cu × α)} (hr : Cl r) {l : List Int} (h : (r (cu l)).1.fin.e = 0) (x : Int) : (r (cu (l ++ [x]))).1.fin.e = 3 := by
  obtain ⟨h1, h2⟩ := fin_ok h
  obtain ⟨u, t, e1, e2, e3⟩ := hr.ok l h1
  have e4 := e2 t
  rw [← e1] at e4
  rw [e4] at h2
  have h2 : t = [] := h2
  rw [h2, List.append_nil] at e1
  rw [e1, e2]
  exact fin_cu_cons _ _
end
section
variable {α β : Type} {f : α → (Cu → Cu × β)}
theorem byte_run (f : Int → (Cu → Cu × β)) (x : Int) (t : List Int) : Rd.bind Rd.byte f (cu (x :: t)) = f x (cu t) := by
  show f (cu (x :: t)).byteV (cu (x :: t)).byteS = _
  rw [byteV_cons, byteS_cons]
theorem need_run (f : Unit → (Cu → Cu × β)) {ok : Bool} (h : ok = true) (e : Int) (c : Cu) : Rd.bind (Rd.need ok e) f c = f () c := by
  show f () (c.need ok e) = _
  rw [h, need_true]
theorem bytes_run (f : List Int → (Cu → Cu × β)) (u t : List Int) {n : Int} (hn : n = (u.length : Int)) : Rd.bind (Rd.bytes n) f (cu (u ++ t)) = f u (cu t) := by
  show f ((cu (u ++ t)).bytesV n) ((cu (u ++ t)).bytesS n) = _
  rw [bytesV_app _ _ hn, bytesS_app _ _ hn]
end
end Go.Proofs.Ytimclbhlgblifaa.Cu
end
section
namespace Go.Proofs.Ytimclbhlgblifaa.P
open Go.RowKit Go.Proofs.YtimclbhlgblifaaW.PrintWords Go.Proofs.YtimclbhlgblifaaW.PrintLast Go.Proofs.YtimclbhlgblifaaW.PrintMore
attribute [local go_sem] max2_int min2_int max_two min_two max_three min_three max_four min_four   -- for this text's walks alone
def mei_lay.l0 : Nat → List Int → List (S43) → Int → Int → Option (List Int)
  | 0, _, _, _, _ => none
  | k + 1, x5, x44, x45, x46 => if x46 < x45 then (if 0 ≤ x46 then (if x46 < (x44.length : Int) then ((some (([(rd_T43 x44 x46).f0, ((((rd_T43 x44 x46).f1).length : Int)) % 256] : List Int) : List Int)).bind fun y163 => (if x5.length + y163.length < 140737488355328 then ((some (x5 ++ y163 : List Int)).bind fun y166 => (if y166.length + ((rd_T43 x44 x46).f1).length < 140737488355328 then (mei_lay.l0 k (y166 ++ ((rd_T43 x44 x46).f1)) x44 x45 (wrap64 (x46 + 1))) else (none))) else (none))) else (none)) else (none)) else (some x5)
def mei_lay.f (k : Nat) (a0 : Int) (a1_0 : Int) (a1_1 : Int) (a1_2 : Int) (a1_3 : Int) (a1_4 : Int) (a1_5 : Int) (a1_6 : Int) (a1_7 : Int) (a1_8 : Int) (a1_9 : Int) (a1_10 : Int) (a1_11 : Int) (l1_12 : List Int) (l1_13 : List Bool) (l1_14 : List Int) (l1_15 : List (S64)) (a1_16 : Int) (a1_17 : Int) (a1_18 : Int) (a1_19 : Int) (a1_20 : Int) (l1_21 : List (S43)) : Option (List Int) := if a1_16 = 13 then ((some (([a1_16] : List Int) : List Int)).bind fun y149 => (if y149.length + l1_14.length < 140737488355328 then (some (y149 ++ l1_14)) else (none))) else (if a0 = 0 then (some (([a1_16, a1_17, a1_20] : List Int))) else (mei_lay.l0 k (([a1_16, a1_17, a1_18, a1_19, a1_20, ((l1_21.length : Int)) % 256] : List Int)) l1_21 (l1_21.length : Int) 0))
theorem mei_lay.mono_l : ∀ k, (∀ y0 y1 y2 y3, LeO (mei_lay.l0 k y0 y1 y2 y3) (mei_lay.l0 (k + 1) y0 y1 y2 y3))
  | 0 => fun _ _ _ _ r h => by simp [mei_lay.l0] at h
  | k + 1 => by
    have ih0 := mei_lay.mono_l k
    · intro y0 y1 y2 y3
      unfold mei_lay.l0
      repeat' first
      | (with_reducible exact ih0 _ _ _ _)
      | (with_reducible exact LeO.refl _)
      | (with_reducible exact LeO.none _)
      | (with_reducible refine LeO.ite ?_ ?_)
      | (with_reducible refine LeO.bind ?_ (fun _ => ?_))
      | exact ih0 _ _ _ _
      | exact LeO.none _
      | refine LeO.ite ?_ ?_
      | refine LeO.bind ?_ (fun _ => ?_)
theorem mei_lay.mono : ∀ a0 a1 a2 a3 a4 a5 a6 a7 a8 a9 a10 a11 a12 a13 a14 a15 a16 a17 a18 a19 a20 a21 a22 k, LeO (mei_lay.f k a0 a1 a2 a3 a4 a5 a6 a7 a8 a9 a10 a11 a12 a13 a14 a15 a16 a17 a18 a19 a20 a21 a22) (mei_lay.f (k + 1) a0 a1 a2 a3 a4 a5 a6 a7 a8 a9 a10 a11 a12 a13 a14 a15 a16 a17 a18 a19 a20 a21 a22) := by
  intro a0 a1 a2 a3 a4 a5 a6 a7 a8 a9 a10 a11 a12 a13 a14 a15 a16 a17 a18 a19 a20 a21 a22 k
  have ih0 := mei_lay.mono_l k
  unfold mei_lay.f
  repeat' first
      | (with_reducible exact ih0 _ _ _ _)
      | (with_reducible exact LeO.refl _)
      | (with_reducible exact LeO.none _)
      | (with_reducible refine LeO.ite ?_ ?_)
      | (with_reducible refine LeO.bind ?_ (fun _ => ?_))
      | exact ih0 _ _ _ _
      | exact LeO.none _
      | refine LeO.ite ?_ ?_
      | refine LeO.bind ?_ (fun _ => ?_)
def mei_lay.T9 : Bool × List (List Nat × List Nat) := (true, [([], []), ([], []), ([1], [1]), ([], []), ([3], [3]), ([4], [4]), ([5], [5]), ([2, 6], [2, 6]), ([0, 7], [0, 7]), ([], []), ([9], [9]), ([8, 10, 8], [8, 10]), ([11, 11, 0, 1, 2, 3, 4, 5, 6, 7, 8, 9, 10, 11], [0, 11])])
def mei_lay.B9 : List Nat := [0, 0, 2, 0, 8, 24, 56, 126, 255, 0, 512, 2047, 4095]
theorem mei_lay.tab9 : rtab .any (opsOf Try.f34 9) = mei_lay.T9 := by kernel_rfl
theorem mei_lay.bits9 : waitsOk mei_lay.T9.2 mei_lay.B9 = true := by kernel_rfl
set_option maxHeartbeats 8000000 in
set_option maxRecDepth 100000 in
theorem mei_lay.calls (k : Nat) (a0 : Int) (a1_0 : Int) (a1_1 : Int) (a1_2 : Int) (a1_3 : Int) (a1_4 : Int) (a1_5 : Int) (a1_6 : Int) (a1_7 : Int) (a1_8 : Int) (a1_9 : Int) (a1_10 : Int) (a1_11 : Int) (A1_12 : Option Addr) (c1_12 : Nat) (l1_12 : List Int) (A1_13 : Option Addr) (c1_13 : Nat) (l1_13 : List Bool) (A1_14 : Option Addr) (c1_14 : Nat) (l1_14 : List Int) (A1_15 : Option Addr) (c1_15 : Nat) (l1_15 : List (S64)) (a1_16 : Int) (a1_17 : Int) (a1_18 : Int) (a1_19 : Int) (a1_20 : Int) (A1_21 : Option Addr) (c1_21 : Nat) (l1_21 : List (S43)) (r : List Int) (w : World) (hr1_12 : Kd.C (Kd.int .u16) w A1_12 l1_12.length l1_12) (hc1_12 : l1_12.length ≤ c1_12) (hr1_13 : Kd.C Kd.bool w A1_13 l1_13.length l1_13) (hc1_13 : l1_13.length ≤ c1_13) (hr1_14 : Kd.C (Kd.int .u8) w A1_14 l1_14.length l1_14) (hc1_14 : l1_14.length ≤ c1_14) (hr1_15 : Kd.C k64 w A1_15 l1_15.length l1_15) (hc1_15 : l1_15.length ≤ c1_15) (hr1_21 : Kd.C k43 w A1_21 l1_21.length l1_21) (hc1_21 : l1_21.length ≤ c1_21) (h : mei_lay.f k a0 a1_0 a1_1 a1_2 a1_3 a1_4 a1_5 a1_6 a1_7 a1_8 a1_9 a1_10 a1_11 l1_12 l1_13 l1_14 l1_15 a1_16 a1_17 a1_18 a1_19 a1_20 l1_21 = some r) :
    Calls Try.prog 34 #[.int .i64 a0, .agg #[.int .u8 a1_0, .int .u8 a1_1, .int .u16 a1_2, .int .u16 a1_3, .int .u16 a1_4, .int .u16 a1_5, .int .u16 a1_6, .int .u16 a1_7, .int .u16 a1_8, .int .u16 a1_9, .int .u16 a1_10, .int .u16 a1_11, .slice A1_12 l1_12.length c1_12, .slice A1_13 l1_13.length c1_13, .slice A1_14 l1_14.length c1_14, .slice A1_15 l1_15.length c1_15, .int .u8 a1_16, .int .u8 a1_17, .int .u8 a1_18, .int .u8 a1_19, .int .u8 a1_20, .slice A1_21 l1_21.length c1_21]] w fun e w' => ∃ v0_ : Value, e = .returned (v0_) ∧ Kd.R (Kd.int .u8) 5 w' w.heap.size (fun _ => True) v0_ r ∧ Below w.heap.size w w' := by
  have hu30 := Try.underlying30
  have hu43 := Try.underlying43
  have HR1_12 := Aside0.mk hr1_12
  have HC1_12 := Aside0.mk hc1_12
  clear hr1_12 hc1_12
  have HR1_13 := Aside0.mk hr1_13
  have HC1_13 := Aside0.mk hc1_13
  clear hr1_13 hc1_13
  have HR1_14 := Aside0.mk hr1_14
  have HC1_14 := Aside0.mk hc1_14
  clear hr1_14 hc1_14
  have HR1_15 := Aside0.mk hr1_15
  have HC1_15 := Aside0.mk hc1_15
  clear hr1_15 hc1_15
  have HR1_21 := Aside0.mk hr1_21
  have HC1_21 := Aside0.mk hc1_21
  clear hr1_21 hc1_21
  have HB := Aside0.mk (Below.refl w.heap.size w)
  have H : (if a1_16 = 13 then ((some (([a1_16] : List Int) : List Int)).bind fun y149 => (if y149.length + l1_14.length < 140737488355328 then (some (y149 ++ l1_14)) else (none))) else (if a0 = 0 then (some (([a1_16, a1_17, a1_20] : List Int))) else (mei_lay.l0 k (([a1_16, a1_17, a1_18, a1_19, a1_20, ((l1_21.length : Int)) % 256] : List Int)) l1_21 (l1_21.length : Int) 0))) = some r := h
  clear h
  by_cases c3 : a1_16 = 13
  · rw [if_pos c3] at H
    have c3b0 : (a1_16 == 13) = true := beq_iff_eq.mpr c3
    have c3b1 : (a1_16 != 13) = false := bne_eq_false_iff_eq.mpr c3
    clear c3
    obtain ⟨y149, hy149⟩ : ∃ y_ : List Int, y_ = (([a1_16] : List Int)) := ⟨_, rfl⟩
    replace H : (if y149.length + l1_14.length < 140737488355328 then (some (y149 ++ l1_14)) else (none)) = some r := by first | (rw [hy149]; with_reducible exact H) | (have H2_ := (Option.bind_some _ _).symm.trans H; rw [hy149]; with_reducible exact H2_) | (have H2_ := (Option.bind_some _ _).symm.trans H; with_reducible exact H2_) | with_reducible exact H | (rw [hy149]; exact H) | exact H
    have Ny149 := Aside0.mk hy149
    clear hy149
    by_cases c4 : y149.length + l1_14.length < 140737488355328
    · rw [if_pos c4] at H
      have LMc4 := Aside0.mk c4
      clear c4
      obtain ⟨y152, hy152⟩ : ∃ y_ : List Int, y_ = (y149 ++ l1_14) := ⟨_, rfl⟩
      replace H : (some y152) = some r := by first | (rw [hy152]; with_reducible exact H) | (have H2_ := (Option.bind_some _ _).symm.trans H; rw [hy152]; with_reducible exact H2_) | (have H2_ := (Option.bind_some _ _).symm.trans H; with_reducible exact H2_) | with_reducible exact H | (rw [hy152]; exact H) | exact H
      have Ny152 := Aside0.mk hy152
      clear hy152
      obtain rfl := Option.some.inj H
      go_enter Try.func34, Try.ntmps34
      go_wp2_with (first | ((with_reducible refine gate_dst (N := 3) rfl ?_); refine box_event ?hg (N := 3) ?hd (cs := #[.int .u8 a1_0, .int .u8 a1_1, .int .u16 a1_2, .int .u16 a1_3, .int .u16 a1_4, .int .u16 a1_5, .int .u16 a1_6, .int .u16 a1_7, .int .u16 a1_8, .int .u16 a1_9, .int .u16 a1_10, .int .u16 a1_11, .slice A1_12 l1_12.length c1_12, .slice A1_13 l1_13.length c1_13, .slice A1_14 l1_14.length c1_14, .slice A1_15 l1_15.length c1_15, .int .u8 a1_16, .int .u8 a1_17, .int .u8 a1_18, .int .u8 a1_19, .int .u8 a1_20, .slice A1_21 l1_21.length c1_21]) (t := 30) ?hr ?_; (case hd => rfl); (case hg => rfl); (case hr => first | (go_simp; done) | (go_simp; rfl)); intro gb148 hg w5 hbox hb; have n0_ := Aside0.mk (below_step (by repeat (first | (with_reducible first | exact HB.out | apply below_alloc | apply pw_below_drewN | apply below_drew1) | exact HB.out)) hb); have n1_ := Aside0.mk (hbox); have n2_ := Aside0.mk ((by rw [hg]; exact (below_size (by repeat (first | (with_reducible first | exact HB.out | apply below_alloc | apply pw_below_drewN | apply below_drew1) | exact HB.out))) : w.heap.size ≤ gb148)); have n3_ := Aside0.mk ((by rw [hg]; exact (below_size (by repeat (first | (with_reducible first | exact HB.out | apply below_alloc | apply pw_below_drewN | apply below_drew1) | exact HB.out))) : w.heap.size ≤ gb148)); clear HB; have HB := n0_; have BK148 := n1_; have GW148 := n2_; have GE148 := n3_; clear n0_ n1_ n2_ n3_; clear hb hbox hg; have hcz6_0 : w5.cell? ⟨gb148, 0, none⟩ = some (.int .u8 a1_0) := (blk_cell BK148.out 0).trans rfl; have hcz6_1 : w5.cell? ⟨gb148, 1, none⟩ = some (.int .u8 a1_1) := (blk_cell BK148.out 1).trans rfl; have hcz6_2 : w5.cell? ⟨gb148, 2, none⟩ = some (.int .u16 a1_2) := (blk_cell BK148.out 2).trans rfl; have hcz6_3 : w5.cell? ⟨gb148, 3, none⟩ = some (.int .u16 a1_3) := (blk_cell BK148.out 3).trans rfl; have hcz6_4 : w5.cell? ⟨gb148, 4, none⟩ = some (.int .u16 a1_4) := (blk_cell BK148.out 4).trans rfl; have hcz6_5 : w5.cell? ⟨gb148, 5, none⟩ = some (.int .u16 a1_5) := (blk_cell BK148.out 5).trans rfl; have hcz6_6 : w5.cell? ⟨gb148, 6, none⟩ = some (.int .u16 a1_6) := (blk_cell BK148.out 6).trans rfl; have hcz6_7 : w5.cell? ⟨gb148, 7, none⟩ = some (.int .u16 a1_7) := (blk_cell BK148.out 7).trans rfl; have hcz6_8 : w5.cell? ⟨gb148, 8, none⟩ = some (.int .u16 a1_8) := (blk_cell BK148.out 8).trans rfl; have hcz6_9 : w5.cell? ⟨gb148, 9, none⟩ = some (.int .u16 a1_9) := (blk_cell BK148.out 9).trans rfl; have hcz6_10 : w5.cell? ⟨gb148, 10, none⟩ = some (.int .u16 a1_10) := (blk_cell BK148.out 10).trans rfl; have hcz6_11 : w5.cell? ⟨gb148, 11, none⟩ = some (.int .u16 a1_11) := (blk_cell BK148.out 11).trans rfl; have hcz6_12 : w5.cell? ⟨gb148, 12, none⟩ = some (.slice A1_12 l1_12.length c1_12) := (blk_cell BK148.out 12).trans rfl; have hcz6_13 : w5.cell? ⟨gb148, 13, none⟩ = some (.slice A1_13 l1_13.length c1_13) := (blk_cell BK148.out 13).trans rfl; have hcz6_14 : w5.cell? ⟨gb148, 14, none⟩ = some (.slice A1_14 l1_14.length c1_14) := (blk_cell BK148.out 14).trans rfl; have hcz6_15 : w5.cell? ⟨gb148, 15, none⟩ = some (.slice A1_15 l1_15.length c1_15) := (blk_cell BK148.out 15).trans rfl; have hcz6_16 : w5.cell? ⟨gb148, 16, none⟩ = some (.int .u8 a1_16) := (blk_cell BK148.out 16).trans rfl; have hcz6_17 : w5.cell? ⟨gb148, 17, none⟩ = some (.int .u8 a1_17) := (blk_cell BK148.out 17).trans rfl; have hcz6_18 : w5.cell? ⟨gb148, 18, none⟩ = some (.int .u8 a1_18) := (blk_cell BK148.out 18).trans rfl; have hcz6_19 : w5.cell? ⟨gb148, 19, none⟩ = some (.int .u8 a1_19) := (blk_cell BK148.out 19).trans rfl; have hcz6_20 : w5.cell? ⟨gb148, 20, none⟩ = some (.int .u8 a1_20) := (blk_cell BK148.out 20).trans rfl; have hcz6_21 : w5.cell? ⟨gb148, 21, none⟩ = some (.slice A1_21 l1_21.length c1_21) := (blk_cell BK148.out 21).trans rfl; have hfz6_0 := blk_frozen BK148.out 0; have hfz6_1 := blk_frozen BK148.out 1; have hfz6_2 := blk_frozen BK148.out 2; have hfz6_3 := blk_frozen BK148.out 3; have hfz6_4 := blk_frozen BK148.out 4; have hfz6_5 := blk_frozen BK148.out 5; have hfz6_6 := blk_frozen BK148.out 6; have hfz6_7 := blk_frozen BK148.out 7; have hfz6_8 := blk_frozen BK148.out 8; have hfz6_9 := blk_frozen BK148.out 9; have hfz6_10 := blk_frozen BK148.out 10; have hfz6_11 := blk_frozen BK148.out 11; have hfz6_12 := blk_frozen BK148.out 12; have hfz6_13 := blk_frozen BK148.out 13; have hfz6_14 := blk_frozen BK148.out 14; have hfz6_15 := blk_frozen BK148.out 15; have hfz6_16 := blk_frozen BK148.out 16; have hfz6_17 := blk_frozen BK148.out 17; have hfz6_18 := blk_frozen BK148.out 18; have hfz6_19 := blk_frozen BK148.out 19; have hfz6_20 := blk_frozen BK148.out 20; have hfz6_21 := blk_frozen BK148.out 21) | ((with_reducible refine gate_dst (N := 14) rfl ?_); refine Kd.R_lit (Kd.int .u8) _ 5 ?hg (N := 14) ?hd (xs := ([a1_16] : List Int)) (inner := [.int .u8 a1_16]) (ok := fun _ => True) (okp := fun _ => True) ?hr ?hp (fun _ hk => hk) trivial (Below.refl _ _) (Nat.le_refl _) (by simp) ?_; (case hd => rfl); (case hg => rfl); (case hr => first | (go_simp; done) | (go_simp; rfl)); (case hp => exact (Reps.one (show Kd.M (Kd.int .u8) _ _ _ a1_16 [.int .u8 a1_16] from rfl) (Reps.none _ _))); intro v150 w7 ho8 hb hg_ hnew_; clear hg_ hnew_; (first | rw [← Ny149.out] at ho8 | (simp only [Int.reduceToNat] at ho8; rw [← Ny149.out] at ho8)); have n0_ := Aside0.mk (Kd.R_lower ho8 (below_size (by repeat (first | (with_reducible first | exact HB.out | apply below_alloc | apply pw_below_drewN | apply below_drew1 | refine below_set ?_ GE148.out) | exact HB.out)))); have n1_ := Aside0.mk (blk_below (g := gb148) (o := .cells #[.int .u8 a1_0, .int .u8 a1_1, .int .u16 a1_2, .int .u16 a1_3, .int .u16 a1_4, .int .u16 a1_5, .int .u16 a1_6, .int .u16 a1_7, .int .u16 a1_8, .int .u16 a1_9, .int .u16 a1_10, .int .u16 a1_11, .slice A1_12 l1_12.length c1_12, .slice A1_13 l1_13.length c1_13, .slice A1_14 l1_14.length c1_14, .slice A1_15 l1_15.length c1_15, .int .u8 a1_16, .int .u8 a1_17, .int .u8 a1_18, .int .u8 a1_19, .int .u8 a1_20, .slice A1_21 l1_21.length c1_21] 30 (0, 0)) (by (with_reducible repeat (first | refine blk_drewN ?_ _ | refine blk_drew ?_ | refine blk_alloc ?_ _)); exact BK148.out) hb); have n2_ := Aside0.mk (below_step (by repeat (first | (with_reducible first | exact HB.out | apply below_alloc | apply pw_below_drewN | apply below_drew1 | refine below_set ?_ GE148.out) | exact HB.out)) hb); clear BK148; clear HB; have HO151 := n0_; have BK148 := n1_; have HB := n2_; clear n0_ n1_ n2_; clear hb ho8; have hcz9_0 : w7.cell? ⟨gb148, 0, none⟩ = some (.int .u8 a1_0) := (blk_cell BK148.out 0).trans rfl; have hcz9_1 : w7.cell? ⟨gb148, 1, none⟩ = some (.int .u8 a1_1) := (blk_cell BK148.out 1).trans rfl; have hcz9_2 : w7.cell? ⟨gb148, 2, none⟩ = some (.int .u16 a1_2) := (blk_cell BK148.out 2).trans rfl; have hcz9_3 : w7.cell? ⟨gb148, 3, none⟩ = some (.int .u16 a1_3) := (blk_cell BK148.out 3).trans rfl; have hcz9_4 : w7.cell? ⟨gb148, 4, none⟩ = some (.int .u16 a1_4) := (blk_cell BK148.out 4).trans rfl; have hcz9_5 : w7.cell? ⟨gb148, 5, none⟩ = some (.int .u16 a1_5) := (blk_cell BK148.out 5).trans rfl; have hcz9_6 : w7.cell? ⟨gb148, 6, none⟩ = some (.int .u16 a1_6) := (blk_cell BK148.out 6).trans rfl; have hcz9_7 : w7.cell? ⟨gb148, 7, none⟩ = some (.int .u16 a1_7) := (blk_cell BK148.out 7).trans rfl; have hcz9_8 : w7.cell? ⟨gb148, 8, none⟩ = some (.int .u16 a1_8) := (blk_cell BK148.out 8).trans rfl; have hcz9_9 : w7.cell? ⟨gb148, 9, none⟩ = some (.int .u16 a1_9) := (blk_cell BK148.out 9).trans rfl; have hcz9_10 : w7.cell? ⟨gb148, 10, none⟩ = some (.int .u16 a1_10) := (blk_cell BK148.out 10).trans rfl; have hcz9_11 : w7.cell? ⟨gb148, 11, none⟩ = some (.int .u16 a1_11) := (blk_cell BK148.out 11).trans rfl; have hcz9_12 : w7.cell? ⟨gb148, 12, none⟩ = some (.slice A1_12 l1_12.length c1_12) := (blk_cell BK148.out 12).trans rfl; have hcz9_13 : w7.cell? ⟨gb148, 13, none⟩ = some (.slice A1_13 l1_13.length c1_13) := (blk_cell BK148.out 13).trans rfl; have hcz9_14 : w7.cell? ⟨gb148, 14, none⟩ = some (.slice A1_14 l1_14.length c1_14) := (blk_cell BK148.out 14).trans rfl; have hcz9_15 : w7.cell? ⟨gb148, 15, none⟩ = some (.slice A1_15 l1_15.length c1_15) := (blk_cell BK148.out 15).trans rfl; have hcz9_16 : w7.cell? ⟨gb148, 16, none⟩ = some (.int .u8 a1_16) := (blk_cell BK148.out 16).trans rfl; have hcz9_17 : w7.cell? ⟨gb148, 17, none⟩ = some (.int .u8 a1_17) := (blk_cell BK148.out 17).trans rfl; have hcz9_18 : w7.cell? ⟨gb148, 18, none⟩ = some (.int .u8 a1_18) := (blk_cell BK148.out 18).trans rfl; have hcz9_19 : w7.cell? ⟨gb148, 19, none⟩ = some (.int .u8 a1_19) := (blk_cell BK148.out 19).trans rfl; have hcz9_20 : w7.cell? ⟨gb148, 20, none⟩ = some (.int .u8 a1_20) := (blk_cell BK148.out 20).trans rfl; have hcz9_21 : w7.cell? ⟨gb148, 21, none⟩ = some (.slice A1_21 l1_21.length c1_21) := (blk_cell BK148.out 21).trans rfl; have hfz9_0 := blk_frozen BK148.out 0; have hfz9_1 := blk_frozen BK148.out 1; have hfz9_2 := blk_frozen BK148.out 2; have hfz9_3 := blk_frozen BK148.out 3; have hfz9_4 := blk_frozen BK148.out 4; have hfz9_5 := blk_frozen BK148.out 5; have hfz9_6 := blk_frozen BK148.out 6; have hfz9_7 := blk_frozen BK148.out 7; have hfz9_8 := blk_frozen BK148.out 8; have hfz9_9 := blk_frozen BK148.out 9; have hfz9_10 := blk_frozen BK148.out 10; have hfz9_11 := blk_frozen BK148.out 11; have hfz9_12 := blk_frozen BK148.out 12; have hfz9_13 := blk_frozen BK148.out 13; have hfz9_14 := blk_frozen BK148.out 14; have hfz9_15 := blk_frozen BK148.out 15; have hfz9_16 := blk_frozen BK148.out 16; have hfz9_17 := blk_frozen BK148.out 17; have hfz9_18 := blk_frozen BK148.out 18; have hfz9_19 := blk_frozen BK148.out 19; have hfz9_20 := blk_frozen BK148.out 20; have hfz9_21 := blk_frozen BK148.out 21) | ((with_reducible refine gate_builtin (b := .append) (xs := #[.tmp 14, .tmp 16]) rfl ?_); at_builtin; refine Kd.R_append_rows (Kd.int .u8) (w0 := w) w.heap.size rfl (.tmp 14) (.tmp 16) 22 5 (.int .u8 0) 1 rfl Try.underlying22 info5 rfl (by decide) (by omega) v150 y149 l1_14 _ _ _ (fun _ => True) (fun _ => False) rfl rfl ?aO ?aR (fun _ _ h => h) (fun _ h => h.elim) ?aF ?aB ?aS ?aL ?_; (case aR => repeat (first | exact (Kd.C_below HR1_14.out HB.out) | (with_reducible refine Kd.C_alloc ?_ _) | (with_reducible refine Kd.C_drewN ?_ _) | (with_reducible refine Kd.C_drew ?_))); (case aB => exact (by repeat (first | (with_reducible first | exact HB.out | apply below_alloc | apply pw_below_drewN | apply below_drew1 | refine below_set ?_ GE148.out) | exact HB.out))); (case aF => exact (fun _ _ => trivial)); (case aO => exact (by (with_reducible repeat (first | apply Kd.R_alloc | apply Kd.R_drewN | apply Kd.R_drew)); exact HO151.out)); (case aS => exact (below_size (by repeat (first | (with_reducible first | exact HB.out | apply below_alloc | apply pw_below_drewN | apply below_drew1 | refine below_set ?_ GE148.out) | exact HB.out)))); (case aL => have := LMc4.out; omega); intro v153 w10 ho hb hg hat; rw [← Ny152.out] at ho; have n0_ := Aside0.mk (blk_grown (g := gb148) (o := .cells #[.int .u8 a1_0, .int .u8 a1_1, .int .u16 a1_2, .int .u16 a1_3, .int .u16 a1_4, .int .u16 a1_5, .int .u16 a1_6, .int .u16 a1_7, .int .u16 a1_8, .int .u16 a1_9, .int .u16 a1_10, .int .u16 a1_11, .slice A1_12 l1_12.length c1_12, .slice A1_13 l1_13.length c1_13, .slice A1_14 l1_14.length c1_14, .slice A1_15 l1_15.length c1_15, .int .u8 a1_16, .int .u8 a1_17, .int .u8 a1_18, .int .u8 a1_19, .int .u8 a1_20, .slice A1_21 l1_21.length c1_21] 30 (0, 0)) (by (with_reducible repeat (first | refine blk_drewN ?_ _ | refine blk_drew ?_ | refine blk_alloc ?_ _)); exact BK148.out) hg (Kd.R_ne HO151.out BK148.out (by decide))); have n1_ := Aside0.mk (hb); have n2_ := Aside0.mk (ho); clear BK148; clear HB; clear HO151; have BK148 := n0_; have HB := n1_; have HO154 := n2_; clear n0_ n1_ n2_; clear ho hb hg hat))
      go_ret
      exact ⟨_, by first | rfl | (simp [errW_none, errW_some] <;> rfl) | (simp [*, errW_none, errW_some] <;> rfl), by (with_reducible repeat (first | apply Kd.R_alloc | apply Kd.R_drewN | apply Kd.R_drew)); exact HO154.out, by repeat (first | (with_reducible first | exact HB.out | apply below_alloc | apply pw_below_drewN | apply below_drew1 | refine below_set ?_ GE148.out) | exact HB.out)⟩
    · rw [if_neg c4] at H
      exact absurd H (by simp)
  · rw [if_neg c3] at H
    have c3b0 : (a1_16 == 13) = false := beq_eq_false_iff_ne.mpr c3
    have c3b1 : (a1_16 != 13) = true := bne_iff_ne.mpr c3
    by_cases c11 : a0 = 0
    · rw [if_pos c11] at H
      have c11b0 : (a0 == 0) = true := beq_iff_eq.mpr c11
      have c11b1 : (a0 != 0) = false := bne_eq_false_iff_eq.mpr c11
      clear c11
      obtain ⟨y155, hy155⟩ : ∃ y_ : List Int, y_ = (([a1_16, a1_17, a1_20] : List Int)) := ⟨_, rfl⟩
      replace H : (some y155) = some r := by first | (rw [hy155]; with_reducible exact H) | (have H2_ := (Option.bind_some _ _).symm.trans H; rw [hy155]; with_reducible exact H2_) | (have H2_ := (Option.bind_some _ _).symm.trans H; with_reducible exact H2_) | with_reducible exact H | (rw [hy155]; exact H) | exact H
      have Ny155 := Aside0.mk hy155
      clear hy155
      obtain rfl := Option.some.inj H
      go_enter Try.func34, Try.ntmps34
      go_wp2_with (first | ((with_reducible refine gate_dst (N := 3) rfl ?_); refine box_event ?hg (N := 3) ?hd (cs := #[.int .u8 a1_0, .int .u8 a1_1, .int .u16 a1_2, .int .u16 a1_3, .int .u16 a1_4, .int .u16 a1_5, .int .u16 a1_6, .int .u16 a1_7, .int .u16 a1_8, .int .u16 a1_9, .int .u16 a1_10, .int .u16 a1_11, .slice A1_12 l1_12.length c1_12, .slice A1_13 l1_13.length c1_13, .slice A1_14 l1_14.length c1_14, .slice A1_15 l1_15.length c1_15, .int .u8 a1_16, .int .u8 a1_17, .int .u8 a1_18, .int .u8 a1_19, .int .u8 a1_20, .slice A1_21 l1_21.length c1_21]) (t := 30) ?hr ?_; (case hd => rfl); (case hg => rfl); (case hr => first | (go_simp; done) | (go_simp; rfl)); intro gb148 hg w12 hbox hb; have n0_ := Aside0.mk (below_step (by repeat (first | (with_reducible first | exact HB.out | apply below_alloc | apply pw_below_drewN | apply below_drew1) | exact HB.out)) hb); have n1_ := Aside0.mk (hbox); have n2_ := Aside0.mk ((by rw [hg]; exact (below_size (by repeat (first | (with_reducible first | exact HB.out | apply below_alloc | apply pw_below_drewN | apply below_drew1) | exact HB.out))) : w.heap.size ≤ gb148)); have n3_ := Aside0.mk ((by rw [hg]; exact (below_size (by repeat (first | (with_reducible first | exact HB.out | apply below_alloc | apply pw_below_drewN | apply below_drew1) | exact HB.out))) : w.heap.size ≤ gb148)); clear HB; have HB := n0_; have BK148 := n1_; have GW148 := n2_; have GE148 := n3_; clear n0_ n1_ n2_ n3_; clear hb hbox hg; have hcz13_0 : w12.cell? ⟨gb148, 0, none⟩ = some (.int .u8 a1_0) := (blk_cell BK148.out 0).trans rfl; have hcz13_1 : w12.cell? ⟨gb148, 1, none⟩ = some (.int .u8 a1_1) := (blk_cell BK148.out 1).trans rfl; have hcz13_2 : w12.cell? ⟨gb148, 2, none⟩ = some (.int .u16 a1_2) := (blk_cell BK148.out 2).trans rfl; have hcz13_3 : w12.cell? ⟨gb148, 3, none⟩ = some (.int .u16 a1_3) := (blk_cell BK148.out 3).trans rfl; have hcz13_4 : w12.cell? ⟨gb148, 4, none⟩ = some (.int .u16 a1_4) := (blk_cell BK148.out 4).trans rfl; have hcz13_5 : w12.cell? ⟨gb148, 5, none⟩ = some (.int .u16 a1_5) := (blk_cell BK148.out 5).trans rfl; have hcz13_6 : w12.cell? ⟨gb148, 6, none⟩ = some (.int .u16 a1_6) := (blk_cell BK148.out 6).trans rfl; have hcz13_7 : w12.cell? ⟨gb148, 7, none⟩ = some (.int .u16 a1_7) := (blk_cell BK148.out 7).trans rfl; have hcz13_8 : w12.cell? ⟨gb148, 8, none⟩ = some (.int .u16 a1_8) := (blk_cell BK148.out 8).trans rfl; have hcz13_9 : w12.cell? ⟨gb148, 9, none⟩ = some (.int .u16 a1_9) := (blk_cell BK148.out 9).trans rfl; have hcz13_10 : w12.cell? ⟨gb148, 10, none⟩ = some (.int .u16 a1_10) := (blk_cell BK148.out 10).trans rfl; have hcz13_11 : w12.cell? ⟨gb148, 11, none⟩ = some (.int .u16 a1_11) := (blk_cell BK148.out 11).trans rfl; have hcz13_12 : w12.cell? ⟨gb148, 12, none⟩ = some (.slice A1_12 l1_12.length c1_12) := (blk_cell BK148.out 12).trans rfl; have hcz13_13 : w12.cell? ⟨gb148, 13, none⟩ = some (.slice A1_13 l1_13.length c1_13) := (blk_cell BK148.out 13).trans rfl; have hcz13_14 : w12.cell? ⟨gb148, 14, none⟩ = some (.slice A1_14 l1_14.length c1_14) := (blk_cell BK148.out 14).trans rfl; have hcz13_15 : w12.cell? ⟨gb148, 15, none⟩ = some (.slice A1_15 l1_15.length c1_15) := (blk_cell BK148.out 15).trans rfl; have hcz13_16 : w12.cell? ⟨gb148, 16, none⟩ = some (.int .u8 a1_16) := (blk_cell BK148.out 16).trans rfl; have hcz13_17 : w12.cell? ⟨gb148, 17, none⟩ = some (.int .u8 a1_17) := (blk_cell BK148.out 17).trans rfl; have hcz13_18 : w12.cell? ⟨gb148, 18, none⟩ = some (.int .u8 a1_18) := (blk_cell BK148.out 18).trans rfl; have hcz13_19 : w12.cell? ⟨gb148, 19, none⟩ = some (.int .u8 a1_19) := (blk_cell BK148.out 19).trans rfl; have hcz13_20 : w12.cell? ⟨gb148, 20, none⟩ = some (.int .u8 a1_20) := (blk_cell BK148.out 20).trans rfl; have hcz13_21 : w12.cell? ⟨gb148, 21, none⟩ = some (.slice A1_21 l1_21.length c1_21) := (blk_cell BK148.out 21).trans rfl; have hfz13_0 := blk_frozen BK148.out 0; have hfz13_1 := blk_frozen BK148.out 1; have hfz13_2 := blk_frozen BK148.out 2; have hfz13_3 := blk_frozen BK148.out 3; have hfz13_4 := blk_frozen BK148.out 4; have hfz13_5 := blk_frozen BK148.out 5; have hfz13_6 := blk_frozen BK148.out 6; have hfz13_7 := blk_frozen BK148.out 7; have hfz13_8 := blk_frozen BK148.out 8; have hfz13_9 := blk_frozen BK148.out 9; have hfz13_10 := blk_frozen BK148.out 10; have hfz13_11 := blk_frozen BK148.out 11; have hfz13_12 := blk_frozen BK148.out 12; have hfz13_13 := blk_frozen BK148.out 13; have hfz13_14 := blk_frozen BK148.out 14; have hfz13_15 := blk_frozen BK148.out 15; have hfz13_16 := blk_frozen BK148.out 16; have hfz13_17 := blk_frozen BK148.out 17; have hfz13_18 := blk_frozen BK148.out 18; have hfz13_19 := blk_frozen BK148.out 19; have hfz13_20 := blk_frozen BK148.out 20; have hfz13_21 := blk_frozen BK148.out 21) | ((with_reducible refine gate_dst (N := 27) rfl ?_); refine Kd.R_lit (Kd.int .u8) _ 5 ?hg (N := 27) ?hd (xs := ([a1_16, a1_17, a1_20] : List Int)) (inner := [.int .u8 a1_16, .int .u8 a1_17, .int .u8 a1_20]) (ok := fun _ => True) (okp := fun _ => True) ?hr ?hp (fun _ hk => hk) trivial (Below.refl _ _) (Nat.le_refl _) (by simp) ?_; (case hd => rfl); (case hg => rfl); (case hr => first | (go_simp; done) | (go_simp; rfl)); (case hp => exact (Reps.one (show Kd.M (Kd.int .u8) _ _ _ a1_16 [.int .u8 a1_16] from rfl) (Reps.one (show Kd.M (Kd.int .u8) _ _ _ a1_17 [.int .u8 a1_17] from rfl) (Reps.one (show Kd.M (Kd.int .u8) _ _ _ a1_20 [.int .u8 a1_20] from rfl) (Reps.none _ _))))); intro v156 w14 ho15 hb hg_ hnew_; clear hg_ hnew_; (first | rw [← Ny155.out] at ho15 | (simp only [Int.reduceToNat] at ho15; rw [← Ny155.out] at ho15)); have n0_ := Aside0.mk (Kd.R_lower ho15 (below_size (by repeat (first | (with_reducible first | exact HB.out | apply below_alloc | apply pw_below_drewN | apply below_drew1 | refine below_set ?_ GE148.out) | exact HB.out)))); have n1_ := Aside0.mk (blk_below (g := gb148) (o := .cells #[.int .u8 a1_0, .int .u8 a1_1, .int .u16 a1_2, .int .u16 a1_3, .int .u16 a1_4, .int .u16 a1_5, .int .u16 a1_6, .int .u16 a1_7, .int .u16 a1_8, .int .u16 a1_9, .int .u16 a1_10, .int .u16 a1_11, .slice A1_12 l1_12.length c1_12, .slice A1_13 l1_13.length c1_13, .slice A1_14 l1_14.length c1_14, .slice A1_15 l1_15.length c1_15, .int .u8 a1_16, .int .u8 a1_17, .int .u8 a1_18, .int .u8 a1_19, .int .u8 a1_20, .slice A1_21 l1_21.length c1_21] 30 (0, 0)) (by (with_reducible repeat (first | refine blk_drewN ?_ _ | refine blk_drew ?_ | refine blk_alloc ?_ _)); exact BK148.out) hb); have n2_ := Aside0.mk (below_step (by repeat (first | (with_reducible first | exact HB.out | apply below_alloc | apply pw_below_drewN | apply below_drew1 | refine below_set ?_ GE148.out) | exact HB.out)) hb); clear BK148; clear HB; have HO157 := n0_; have BK148 := n1_; have HB := n2_; clear n0_ n1_ n2_; clear hb ho15))
      go_ret
      exact ⟨_, by first | rfl | (simp [errW_none, errW_some] <;> rfl) | (simp [*, errW_none, errW_some] <;> rfl), by (with_reducible repeat (first | apply Kd.R_alloc | apply Kd.R_drewN | apply Kd.R_drew)); exact HO157.out, by repeat (first | (with_reducible first | exact HB.out | apply below_alloc | apply pw_below_drewN | apply below_drew1 | refine below_set ?_ GE148.out) | exact HB.out)⟩
    · rw [if_neg c11] at H
      have c11b0 : (a0 == 0) = false := beq_eq_false_iff_ne.mpr c11
      have c11b1 : (a0 != 0) = true := bne_iff_ne.mpr c11
      obtain ⟨y158, hy158⟩ : ∃ y_ : List Int, y_ = (([a1_16, a1_17, a1_18, a1_19, a1_20, ((l1_21.length : Int)) % 256] : List Int)) := ⟨_, rfl⟩
      replace H : (mei_lay.l0 k y158 l1_21 (l1_21.length : Int) 0) = some r := by first | (rw [hy158]; with_reducible exact H) | (have H2_ := (Option.bind_some _ _).symm.trans H; rw [hy158]; with_reducible exact H2_) | (have H2_ := (Option.bind_some _ _).symm.trans H; with_reducible exact H2_) | with_reducible exact H | (rw [hy158]; exact H) | exact H
      have Ny158 := Aside0.mk hy158
      clear hy158
      have H' := Aside0.mk H
      clear H
      go_enter Try.func34, Try.ntmps34
      go_wp2_with (first | ((with_reducible refine gate_dst (N := 3) rfl ?_); refine box_event ?hg (N := 3) ?hd (cs := #[.int .u8 a1_0, .int .u8 a1_1, .int .u16 a1_2, .int .u16 a1_3, .int .u16 a1_4, .int .u16 a1_5, .int .u16 a1_6, .int .u16 a1_7, .int .u16 a1_8, .int .u16 a1_9, .int .u16 a1_10, .int .u16 a1_11, .slice A1_12 l1_12.length c1_12, .slice A1_13 l1_13.length c1_13, .slice A1_14 l1_14.length c1_14, .slice A1_15 l1_15.length c1_15, .int .u8 a1_16, .int .u8 a1_17, .int .u8 a1_18, .int .u8 a1_19, .int .u8 a1_20, .slice A1_21 l1_21.length c1_21]) (t := 30) ?hr ?_; (case hd => rfl); (case hg => rfl); (case hr => first | (go_simp; done) | (go_simp; rfl)); intro gb148 hg w16 hbox hb; have n0_ := Aside0.mk (below_step (by repeat (first | (with_reducible first | exact HB.out | apply below_alloc | apply pw_below_drewN | apply below_drew1) | exact HB.out)) hb); have n1_ := Aside0.mk (hbox); have n2_ := Aside0.mk ((by rw [hg]; exact (below_size (by repeat (first | (with_reducible first | exact HB.out | apply below_alloc | apply pw_below_drewN | apply below_drew1) | exact HB.out))) : w.heap.size ≤ gb148)); have n3_ := Aside0.mk ((by rw [hg]; exact (below_size (by repeat (first | (with_reducible first | exact HB.out | apply below_alloc | apply pw_below_drewN | apply below_drew1) | exact HB.out))) : w.heap.size ≤ gb148)); clear HB; have HB := n0_; have BK148 := n1_; have GW148 := n2_; have GE148 := n3_; clear n0_ n1_ n2_ n3_; clear hb hbox hg; have hcz17_0 : w16.cell? ⟨gb148, 0, none⟩ = some (.int .u8 a1_0) := (blk_cell BK148.out 0).trans rfl; have hcz17_1 : w16.cell? ⟨gb148, 1, none⟩ = some (.int .u8 a1_1) := (blk_cell BK148.out 1).trans rfl; have hcz17_2 : w16.cell? ⟨gb148, 2, none⟩ = some (.int .u16 a1_2) := (blk_cell BK148.out 2).trans rfl; have hcz17_3 : w16.cell? ⟨gb148, 3, none⟩ = some (.int .u16 a1_3) := (blk_cell BK148.out 3).trans rfl; have hcz17_4 : w16.cell? ⟨gb148, 4, none⟩ = some (.int .u16 a1_4) := (blk_cell BK148.out 4).trans rfl; have hcz17_5 : w16.cell? ⟨gb148, 5, none⟩ = some (.int .u16 a1_5) := (blk_cell BK148.out 5).trans rfl; have hcz17_6 : w16.cell? ⟨gb148, 6, none⟩ = some (.int .u16 a1_6) := (blk_cell BK148.out 6).trans rfl; have hcz17_7 : w16.cell? ⟨gb148, 7, none⟩ = some (.int .u16 a1_7) := (blk_cell BK148.out 7).trans rfl; have hcz17_8 : w16.cell? ⟨gb148, 8, none⟩ = some (.int .u16 a1_8) := (blk_cell BK148.out 8).trans rfl; have hcz17_9 : w16.cell? ⟨gb148, 9, none⟩ = some (.int .u16 a1_9) := (blk_cell BK148.out 9).trans rfl; have hcz17_10 : w16.cell? ⟨gb148, 10, none⟩ = some (.int .u16 a1_10) := (blk_cell BK148.out 10).trans rfl; have hcz17_11 : w16.cell? ⟨gb148, 11, none⟩ = some (.int .u16 a1_11) := (blk_cell BK148.out 11).trans rfl; have hcz17_12 : w16.cell? ⟨gb148, 12, none⟩ = some (.slice A1_12 l1_12.length c1_12) := (blk_cell BK148.out 12).trans rfl; have hcz17_13 : w16.cell? ⟨gb148, 13, none⟩ = some (.slice A1_13 l1_13.length c1_13) := (blk_cell BK148.out 13).trans rfl; have hcz17_14 : w16.cell? ⟨gb148, 14, none⟩ = some (.slice A1_14 l1_14.length c1_14) := (blk_cell BK148.out 14).trans rfl; have hcz17_15 : w16.cell? ⟨gb148, 15, none⟩ = some (.slice A1_15 l1_15.length c1_15) := (blk_cell BK148.out 15).trans rfl; have hcz17_16 : w16.cell? ⟨gb148, 16, none⟩ = some (.int .u8 a1_16) := (blk_cell BK148.out 16).trans rfl; have hcz17_17 : w16.cell? ⟨gb148, 17, none⟩ = some (.int .u8 a1_17) := (blk_cell BK148.out 17).trans rfl; have hcz17_18 : w16.cell? ⟨gb148, 18, none⟩ = some (.int .u8 a1_18) := (blk_cell BK148.out 18).trans rfl; have hcz17_19 : w16.cell? ⟨gb148, 19, none⟩ = some (.int .u8 a1_19) := (blk_cell BK148.out 19).trans rfl; have hcz17_20 : w16.cell? ⟨gb148, 20, none⟩ = some (.int .u8 a1_20) := (blk_cell BK148.out 20).trans rfl; have hcz17_21 : w16.cell? ⟨gb148, 21, none⟩ = some (.slice A1_21 l1_21.length c1_21) := (blk_cell BK148.out 21).trans rfl; have hfz17_0 := blk_frozen BK148.out 0; have hfz17_1 := blk_frozen BK148.out 1; have hfz17_2 := blk_frozen BK148.out 2; have hfz17_3 := blk_frozen BK148.out 3; have hfz17_4 := blk_frozen BK148.out 4; have hfz17_5 := blk_frozen BK148.out 5; have hfz17_6 := blk_frozen BK148.out 6; have hfz17_7 := blk_frozen BK148.out 7; have hfz17_8 := blk_frozen BK148.out 8; have hfz17_9 := blk_frozen BK148.out 9; have hfz17_10 := blk_frozen BK148.out 10; have hfz17_11 := blk_frozen BK148.out 11; have hfz17_12 := blk_frozen BK148.out 12; have hfz17_13 := blk_frozen BK148.out 13; have hfz17_14 := blk_frozen BK148.out 14; have hfz17_15 := blk_frozen BK148.out 15; have hfz17_16 := blk_frozen BK148.out 16; have hfz17_17 := blk_frozen BK148.out 17; have hfz17_18 := blk_frozen BK148.out 18; have hfz17_19 := blk_frozen BK148.out 19; have hfz17_20 := blk_frozen BK148.out 20; have hfz17_21 := blk_frozen BK148.out 21) | ((with_reducible refine gate_dst (N := 42) rfl ?_); refine Kd.R_lit (Kd.int .u8) _ 5 ?hg (N := 42) ?hd (xs := ([a1_16, a1_17, a1_18, a1_19, a1_20, ((l1_21.length : Int)) % 256] : List Int)) (inner := [.int .u8 a1_16, .int .u8 a1_17, .int .u8 a1_18, .int .u8 a1_19, .int .u8 a1_20, .int .u8 (((l1_21.length : Int)) % 256)]) (ok := fun _ => True) (okp := fun _ => True) ?hr ?hp (fun _ hk => hk) trivial (Below.refl _ _) (Nat.le_refl _) (by simp) ?_; (case hd => rfl); (case hg => rfl); (case hr => first | (go_simp; done) | (go_simp; rfl)); (case hp => exact (Reps.one (show Kd.M (Kd.int .u8) _ _ _ a1_16 [.int .u8 a1_16] from rfl) (Reps.one (show Kd.M (Kd.int .u8) _ _ _ a1_17 [.int .u8 a1_17] from rfl) (Reps.one (show Kd.M (Kd.int .u8) _ _ _ a1_18 [.int .u8 a1_18] from rfl) (Reps.one (show Kd.M (Kd.int .u8) _ _ _ a1_19 [.int .u8 a1_19] from rfl) (Reps.one (show Kd.M (Kd.int .u8) _ _ _ a1_20 [.int .u8 a1_20] from rfl) (Reps.one (show Kd.M (Kd.int .u8) _ _ _ (((l1_21.length : Int)) % 256) [.int .u8 (((l1_21.length : Int)) % 256)] from rfl) (Reps.none _ _)))))))); intro v159 w18 ho19 hb hg_ hnew_; clear hg_ hnew_; (first | rw [← Ny158.out] at ho19 | (simp only [Int.reduceToNat] at ho19; rw [← Ny158.out] at ho19)); have n0_ := Aside0.mk (Kd.R_lower ho19 (below_size (by repeat (first | (with_reducible first | exact HB.out | apply below_alloc | apply pw_below_drewN | apply below_drew1 | refine below_set ?_ GE148.out) | exact HB.out)))); have n1_ := Aside0.mk (blk_below (g := gb148) (o := .cells #[.int .u8 a1_0, .int .u8 a1_1, .int .u16 a1_2, .int .u16 a1_3, .int .u16 a1_4, .int .u16 a1_5, .int .u16 a1_6, .int .u16 a1_7, .int .u16 a1_8, .int .u16 a1_9, .int .u16 a1_10, .int .u16 a1_11, .slice A1_12 l1_12.length c1_12, .slice A1_13 l1_13.length c1_13, .slice A1_14 l1_14.length c1_14, .slice A1_15 l1_15.length c1_15, .int .u8 a1_16, .int .u8 a1_17, .int .u8 a1_18, .int .u8 a1_19, .int .u8 a1_20, .slice A1_21 l1_21.length c1_21] 30 (0, 0)) (by (with_reducible repeat (first | refine blk_drewN ?_ _ | refine blk_drew ?_ | refine blk_alloc ?_ _)); exact BK148.out) hb); have n2_ := Aside0.mk (below_step (by repeat (first | (with_reducible first | exact HB.out | apply below_alloc | apply pw_below_drewN | apply below_drew1 | refine below_set ?_ GE148.out) | exact HB.out)) hb); clear BK148; clear HB; have HO160 := n0_; have BK148 := n1_; have HB := n2_; clear n0_ n1_ n2_; clear hb ho19; have hcz20_0 : w18.cell? ⟨gb148, 0, none⟩ = some (.int .u8 a1_0) := (blk_cell BK148.out 0).trans rfl; have hcz20_1 : w18.cell? ⟨gb148, 1, none⟩ = some (.int .u8 a1_1) := (blk_cell BK148.out 1).trans rfl; have hcz20_2 : w18.cell? ⟨gb148, 2, none⟩ = some (.int .u16 a1_2) := (blk_cell BK148.out 2).trans rfl; have hcz20_3 : w18.cell? ⟨gb148, 3, none⟩ = some (.int .u16 a1_3) := (blk_cell BK148.out 3).trans rfl; have hcz20_4 : w18.cell? ⟨gb148, 4, none⟩ = some (.int .u16 a1_4) := (blk_cell BK148.out 4).trans rfl; have hcz20_5 : w18.cell? ⟨gb148, 5, none⟩ = some (.int .u16 a1_5) := (blk_cell BK148.out 5).trans rfl; have hcz20_6 : w18.cell? ⟨gb148, 6, none⟩ = some (.int .u16 a1_6) := (blk_cell BK148.out 6).trans rfl; have hcz20_7 : w18.cell? ⟨gb148, 7, none⟩ = some (.int .u16 a1_7) := (blk_cell BK148.out 7).trans rfl; have hcz20_8 : w18.cell? ⟨gb148, 8, none⟩ = some (.int .u16 a1_8) := (blk_cell BK148.out 8).trans rfl; have hcz20_9 : w18.cell? ⟨gb148, 9, none⟩ = some (.int .u16 a1_9) := (blk_cell BK148.out 9).trans rfl; have hcz20_10 : w18.cell? ⟨gb148, 10, none⟩ = some (.int .u16 a1_10) := (blk_cell BK148.out 10).trans rfl; have hcz20_11 : w18.cell? ⟨gb148, 11, none⟩ = some (.int .u16 a1_11) := (blk_cell BK148.out 11).trans rfl; have hcz20_12 : w18.cell? ⟨gb148, 12, none⟩ = some (.slice A1_12 l1_12.length c1_12) := (blk_cell BK148.out 12).trans rfl; have hcz20_13 : w18.cell? ⟨gb148, 13, none⟩ = some (.slice A1_13 l1_13.length c1_13) := (blk_cell BK148.out 13).trans rfl; have hcz20_14 : w18.cell? ⟨gb148, 14, none⟩ = some (.slice A1_14 l1_14.length c1_14) := (blk_cell BK148.out 14).trans rfl; have hcz20_15 : w18.cell? ⟨gb148, 15, none⟩ = some (.slice A1_15 l1_15.length c1_15) := (blk_cell BK148.out 15).trans rfl; have hcz20_16 : w18.cell? ⟨gb148, 16, none⟩ = some (.int .u8 a1_16) := (blk_cell BK148.out 16).trans rfl; have hcz20_17 : w18.cell? ⟨gb148, 17, none⟩ = some (.int .u8 a1_17) := (blk_cell BK148.out 17).trans rfl; have hcz20_18 : w18.cell? ⟨gb148, 18, none⟩ = some (.int .u8 a1_18) := (blk_cell BK148.out 18).trans rfl; have hcz20_19 : w18.cell? ⟨gb148, 19, none⟩ = some (.int .u8 a1_19) := (blk_cell BK148.out 19).trans rfl; have hcz20_20 : w18.cell? ⟨gb148, 20, none⟩ = some (.int .u8 a1_20) := (blk_cell BK148.out 20).trans rfl; have hcz20_21 : w18.cell? ⟨gb148, 21, none⟩ = some (.slice A1_21 l1_21.length c1_21) := (blk_cell BK148.out 21).trans rfl; have hfz20_0 := blk_frozen BK148.out 0; have hfz20_1 := blk_frozen BK148.out 1; have hfz20_2 := blk_frozen BK148.out 2; have hfz20_3 := blk_frozen BK148.out 3; have hfz20_4 := blk_frozen BK148.out 4; have hfz20_5 := blk_frozen BK148.out 5; have hfz20_6 := blk_frozen BK148.out 6; have hfz20_7 := blk_frozen BK148.out 7; have hfz20_8 := blk_frozen BK148.out 8; have hfz20_9 := blk_frozen BK148.out 9; have hfz20_10 := blk_frozen BK148.out 10; have hfz20_11 := blk_frozen BK148.out 11; have hfz20_12 := blk_frozen BK148.out 12; have hfz20_13 := blk_frozen BK148.out 13; have hfz20_14 := blk_frozen BK148.out 14; have hfz20_15 := blk_frozen BK148.out 15; have hfz20_16 := blk_frozen BK148.out 16; have hfz20_17 := blk_frozen BK148.out 17; have hfz20_18 := blk_frozen BK148.out 18; have hfz20_19 := blk_frozen BK148.out 19; have hfz20_20 := blk_frozen BK148.out 20; have hfz20_21 := blk_frozen BK148.out 21))
      go_loopg [5, 46] k (fun kq v5 v46 w' => ∃ (x5_1 : List Int) (x46_1 : Int), v46 = .int .i64 x46_1 ∧ Aside0 (mei_lay.l0 kq x5_1 l1_21 (l1_21.length : Int) x46_1 = some r) ∧ Aside0 (kq ≤ k) ∧ Aside0 (Kd.R (Kd.int .u8) 5 w' w.heap.size (fun _ => True) v5 x5_1) ∧ Aside0 (w'.heap[gb148]? = some (.cells #[.int .u8 a1_0, .int .u8 a1_1, .int .u16 a1_2, .int .u16 a1_3, .int .u16 a1_4, .int .u16 a1_5, .int .u16 a1_6, .int .u16 a1_7, .int .u16 a1_8, .int .u16 a1_9, .int .u16 a1_10, .int .u16 a1_11, (.slice A1_12 l1_12.length c1_12), (.slice A1_13 l1_13.length c1_13), (.slice A1_14 l1_14.length c1_14), (.slice A1_15 l1_15.length c1_15), .int .u8 a1_16, .int .u8 a1_17, .int .u8 a1_18, .int .u8 a1_19, .int .u8 a1_20, (.slice A1_21 l1_21.length c1_21)] 30 (0, 0))) ∧ Aside0 (Below w.heap.size w w'))
      case atStart => exact ⟨(y158), (0), (by first | rfl | (simp; done) | (simp [*]; done)), H', ⟨Nat.le_refl _⟩, ⟨by (with_reducible repeat (first | apply Kd.R_alloc | apply Kd.R_drewN | apply Kd.R_drew)); exact HO160.out⟩, ⟨by (with_reducible repeat (first | refine blk_drewN ?_ _ | refine blk_drew ?_ | refine blk_alloc ?_ _)); exact BK148.out⟩, ⟨by repeat (first | (with_reducible first | exact HB.out | apply below_alloc | apply pw_below_drewN | apply below_drew1 | refine below_set ?_ GE148.out) | exact HB.out)⟩⟩
      case round =>
        clear H'
        try clear c1
        try clear p2
        try clear c3
        try clear c3b0
        try clear c3b1
        try clear c4
        try clear c11
        try clear c11b0
        try clear c11b1
        try clear hcz13_0
        try clear hcz13_1
        try clear hcz13_10
        try clear hcz13_11
        try clear hcz13_12
        try clear hcz13_13
        try clear hcz13_14
        try clear hcz13_15
        try clear hcz13_16
        try clear hcz13_17
        try clear hcz13_18
        try clear hcz13_19
        try clear hcz13_2
        try clear hcz13_20
        try clear hcz13_21
        try clear hcz13_3
        try clear hcz13_4
        try clear hcz13_5
        try clear hcz13_6
        try clear hcz13_7
        try clear hcz13_8
        try clear hcz13_9
        try clear hcz17_0
        try clear hcz17_1
        try clear hcz17_10
        try clear hcz17_11
        try clear hcz17_12
        try clear hcz17_13
        try clear hcz17_14
        try clear hcz17_15
        try clear hcz17_16
        try clear hcz17_17
        try clear hcz17_18
        try clear hcz17_19
        try clear hcz17_2
        try clear hcz17_20
        try clear hcz17_21
        try clear hcz17_3
        try clear hcz17_4
        try clear hcz17_5
        try clear hcz17_6
        try clear hcz17_7
        try clear hcz17_8
        try clear hcz17_9
        try clear hcz20_0
        try clear hcz20_1
        try clear hcz20_10
        try clear hcz20_11
        try clear hcz20_12
        try clear hcz20_13
        try clear hcz20_14
        try clear hcz20_15
        try clear hcz20_16
        try clear hcz20_17
        try clear hcz20_18
        try clear hcz20_19
        try clear hcz20_2
        try clear hcz20_20
        try clear hcz20_21
        try clear hcz20_3
        try clear hcz20_4
        try clear hcz20_5
        try clear hcz20_6
        try clear hcz20_7
        try clear hcz20_8
        try clear hcz20_9
        try clear hcz6_0
        try clear hcz6_1
        try clear hcz6_10
        try clear hcz6_11
        try clear hcz6_12
        try clear hcz6_13
        try clear hcz6_14
        try clear hcz6_15
        try clear hcz6_16
        try clear hcz6_17
        try clear hcz6_18
        try clear hcz6_19
        try clear hcz6_2
        try clear hcz6_20
        try clear hcz6_21
        try clear hcz6_3
        try clear hcz6_4
        try clear hcz6_5
        try clear hcz6_6
        try clear hcz6_7
        try clear hcz6_8
        try clear hcz6_9
        try clear hcz9_0
        try clear hcz9_1
        try clear hcz9_10
        try clear hcz9_11
        try clear hcz9_12
        try clear hcz9_13
        try clear hcz9_14
        try clear hcz9_15
        try clear hcz9_16
        try clear hcz9_17
        try clear hcz9_18
        try clear hcz9_19
        try clear hcz9_2
        try clear hcz9_20
        try clear hcz9_21
        try clear hcz9_3
        try clear hcz9_4
        try clear hcz9_5
        try clear hcz9_6
        try clear hcz9_7
        try clear hcz9_8
        try clear hcz9_9
        try clear hfz13_0
        try clear hfz13_1
        try clear hfz13_10
        try clear hfz13_11
        try clear hfz13_12
        try clear hfz13_13
        try clear hfz13_14
        try clear hfz13_15
        try clear hfz13_16
        try clear hfz13_17
        try clear hfz13_18
        try clear hfz13_19
        try clear hfz13_2
        try clear hfz13_20
        try clear hfz13_21
        try clear hfz13_3
        try clear hfz13_4
        try clear hfz13_5
        try clear hfz13_6
        try clear hfz13_7
        try clear hfz13_8
        try clear hfz13_9
        try clear hfz17_0
        try clear hfz17_1
        try clear hfz17_10
        try clear hfz17_11
        try clear hfz17_12
        try clear hfz17_13
        try clear hfz17_14
        try clear hfz17_15
        try clear hfz17_16
        try clear hfz17_17
        try clear hfz17_18
        try clear hfz17_19
        try clear hfz17_2
        try clear hfz17_20
        try clear hfz17_21
        try clear hfz17_3
        try clear hfz17_4
        try clear hfz17_5
        try clear hfz17_6
        try clear hfz17_7
        try clear hfz17_8
        try clear hfz17_9
        try clear hfz20_0
        try clear hfz20_1
        try clear hfz20_10
        try clear hfz20_11
        try clear hfz20_12
        try clear hfz20_13
        try clear hfz20_14
        try clear hfz20_15
        try clear hfz20_16
        try clear hfz20_17
        try clear hfz20_18
        try clear hfz20_19
        try clear hfz20_2
        try clear hfz20_20
        try clear hfz20_21
        try clear hfz20_3
        try clear hfz20_4
        try clear hfz20_5
        try clear hfz20_6
        try clear hfz20_7
        try clear hfz20_8
        try clear hfz20_9
        try clear hfz6_0
        try clear hfz6_1
        try clear hfz6_10
        try clear hfz6_11
        try clear hfz6_12
        try clear hfz6_13
        try clear hfz6_14
        try clear hfz6_15
        try clear hfz6_16
        try clear hfz6_17
        try clear hfz6_18
        try clear hfz6_19
        try clear hfz6_2
        try clear hfz6_20
        try clear hfz6_21
        try clear hfz6_3
        try clear hfz6_4
        try clear hfz6_5
        try clear hfz6_6
        try clear hfz6_7
        try clear hfz6_8
        try clear hfz6_9
        try clear hfz9_0
        try clear hfz9_1
        try clear hfz9_10
        try clear hfz9_11
        try clear hfz9_12
        try clear hfz9_13
        try clear hfz9_14
        try clear hfz9_15
        try clear hfz9_16
        try clear hfz9_17
        try clear hfz9_18
        try clear hfz9_19
        try clear hfz9_2
        try clear hfz9_20
        try clear hfz9_21
        try clear hfz9_3
        try clear hfz9_4
        try clear hfz9_5
        try clear hfz9_6
        try clear hfz9_7
        try clear hfz9_8
        try clear hfz9_9
        obtain ⟨x5_1, x46_1, rfl, HA, HK1, HO_5, BK148, HB⟩ := hrel
        cases gk with
        | zero => exact absurd HA.out (by simp [mei_lay.l0])
        | succ k1 =>
          have H := HA.out
          clear HA
          simp only [mei_lay.l0] at H
          by_cases c21 : x46_1 < (l1_21.length : Int)
          · rw [if_pos c21] at H
            have c21b0 : decide (x46_1 < (l1_21.length : Int)) = true := decide_eq_true c21
            clear c21
            by_cases c22 : 0 ≤ x46_1
            · rw [if_pos c22] at H
              have c22b0 : decide (0 ≤ x46_1) = true := decide_eq_true c22
              clear c22
              by_cases c23 : x46_1 < (l1_21.length : Int)
              · rw [if_pos c23] at H
                have c23b0 : decide (x46_1 < (l1_21.length : Int)) = true := decide_eq_true c23
                clear c23
                obtain ⟨y163, hy163⟩ : ∃ y_ : List Int, y_ = (([(rd_T43 l1_21 x46_1).f0, ((((rd_T43 l1_21 x46_1).f1).length : Int)) % 256] : List Int)) := ⟨_, rfl⟩
                replace H : (if x5_1.length + y163.length < 140737488355328 then ((some (x5_1 ++ y163 : List Int)).bind fun y166 => (if y166.length + ((rd_T43 l1_21 x46_1).f1).length < 140737488355328 then (mei_lay.l0 k1 (y166 ++ ((rd_T43 l1_21 x46_1).f1)) l1_21 (l1_21.length : Int) (wrap64 (x46_1 + 1))) else (none))) else (none)) = some r := by first | (rw [hy163]; with_reducible exact H) | (have H2_ := (Option.bind_some _ _).symm.trans H; rw [hy163]; with_reducible exact H2_) | (have H2_ := (Option.bind_some _ _).symm.trans H; with_reducible exact H2_) | with_reducible exact H | (rw [hy163]; exact H) | exact H
                have Ny163 := Aside0.mk hy163
                clear hy163
                by_cases c24 : x5_1.length + y163.length < 140737488355328
                · rw [if_pos c24] at H
                  have LMc24 := Aside0.mk c24
                  clear c24
                  obtain ⟨y166, hy166⟩ : ∃ y_ : List Int, y_ = (x5_1 ++ y163) := ⟨_, rfl⟩
                  replace H : (if y166.length + ((rd_T43 l1_21 x46_1).f1).length < 140737488355328 then (mei_lay.l0 k1 (y166 ++ ((rd_T43 l1_21 x46_1).f1)) l1_21 (l1_21.length : Int) (wrap64 (x46_1 + 1))) else (none)) = some r := by first | (rw [hy166]; with_reducible exact H) | (have H2_ := (Option.bind_some _ _).symm.trans H; rw [hy166]; with_reducible exact H2_) | (have H2_ := (Option.bind_some _ _).symm.trans H; with_reducible exact H2_) | with_reducible exact H | (rw [hy166]; exact H) | exact H
                  have Ny166 := Aside0.mk hy166
                  clear hy166
                  by_cases c25 : y166.length + ((rd_T43 l1_21 x46_1).f1).length < 140737488355328
                  · rw [if_pos c25] at H
                    have LMc25 := Aside0.mk c25
                    clear c25
                    obtain ⟨y169, hy169⟩ : ∃ y_ : List Int, y_ = (y166 ++ ((rd_T43 l1_21 x46_1).f1)) := ⟨_, rfl⟩
                    replace H : (mei_lay.l0 k1 y169 l1_21 (l1_21.length : Int) (wrap64 (x46_1 + 1))) = some r := by first | (rw [hy169]; with_reducible exact H) | (have H2_ := (Option.bind_some _ _).symm.trans H; rw [hy169]; with_reducible exact H2_) | (have H2_ := (Option.bind_some _ _).symm.trans H; with_reducible exact H2_) | with_reducible exact H | (rw [hy169]; exact H) | exact H
                    have Ny169 := Aside0.mk hy169
                    clear hy169
                    have H' := Aside0.mk H
                    clear H
                    have p161 : 0 ≤ (x46_1 : Int) := of_decide_eq_true (by first | (with_reducible assumption) | assumption)
                    have q161 : x46_1 < (l1_21.length : Int) := of_decide_eq_true (by first | (with_reducible assumption) | assumption)
                    obtain ⟨ad161, A161_1, c161_1, e161, hx161_0, hx161_1, hl161_1, hi161_1⟩ := at_T43 HR1_21.out x46_1 p161 q161
                    cases e161
                    replace hx161_0 := (HB.out.cell (World.block_lt_of_cell? w _ hx161_0)).trans hx161_0
                    replace hx161_1 := (HB.out.cell (World.block_lt_of_cell? w _ hx161_1)).trans hx161_1
                    have HR161_1 := Aside0.mk hi161_1
                    have HC161_1 := Aside0.mk hl161_1
                    clear hi161_1 hl161_1
                    replace p161 := eq_true p161
                    replace q161 := eq_true q161
                    try go_wp2_with (first | ((with_reducible refine gate_dst (N := 7) rfl ?_); refine box_event ?hg (N := 7) ?hd (cs := #[.int .u8 0, .slice none 0 0]) (t := 43) ?hr ?_; (case hd => rfl); (case hg => rfl); (case hr => first | (go_simp; done) | (go_simp; rfl)); intro gb162 hg w26 hbox hb; have n0_ := Aside0.mk (Kd.R_below (by (with_reducible repeat (first | apply Kd.R_alloc | apply Kd.R_drewN | apply Kd.R_drew)); exact HO_5.out) hb); have n1_ := Aside0.mk (blk_below (g := gb148) (o := .cells #[.int .u8 a1_0, .int .u8 a1_1, .int .u16 a1_2, .int .u16 a1_3, .int .u16 a1_4, .int .u16 a1_5, .int .u16 a1_6, .int .u16 a1_7, .int .u16 a1_8, .int .u16 a1_9, .int .u16 a1_10, .int .u16 a1_11, .slice A1_12 l1_12.length c1_12, .slice A1_13 l1_13.length c1_13, .slice A1_14 l1_14.length c1_14, .slice A1_15 l1_15.length c1_15, .int .u8 a1_16, .int .u8 a1_17, .int .u8 a1_18, .int .u8 a1_19, .int .u8 a1_20, .slice (some ad161) l1_21.length c1_21] 30 (0, 0)) (by (with_reducible repeat (first | refine blk_drewN ?_ _ | refine blk_drew ?_ | refine blk_alloc ?_ _)); exact BK148.out) hb); have n2_ := Aside0.mk (below_step (by repeat (first | (with_reducible first | exact HB.out | apply below_alloc | apply pw_below_drewN | apply below_drew1 | refine below_set ?_ GE148.out) | exact HB.out)) hb); have n3_ := Aside0.mk (hbox); have n4_ := Aside0.mk ((by rw [hg]; exact (below_size (by repeat (first | (with_reducible first | exact HB.out | apply below_alloc | apply pw_below_drewN | apply below_drew1 | refine below_set ?_ GE148.out) | exact HB.out))) : w.heap.size ≤ gb162)); have n5_ := Aside0.mk ((by rw [hg]; exact (below_size (by repeat (first | (with_reducible first | exact HB.out | apply below_alloc | apply pw_below_drewN | apply below_drew1 | refine below_set ?_ GE148.out) | exact HB.out))) : w.heap.size ≤ gb162)); have n6_ := Aside0.mk ((by rw [hg]; exact Nat.ne_of_lt (blk_lt (g := gb148) (o := .cells #[.int .u8 a1_0, .int .u8 a1_1, .int .u16 a1_2, .int .u16 a1_3, .int .u16 a1_4, .int .u16 a1_5, .int .u16 a1_6, .int .u16 a1_7, .int .u16 a1_8, .int .u16 a1_9, .int .u16 a1_10, .int .u16 a1_11, .slice A1_12 l1_12.length c1_12, .slice A1_13 l1_13.length c1_13, .slice A1_14 l1_14.length c1_14, .slice A1_15 l1_15.length c1_15, .int .u8 a1_16, .int .u8 a1_17, .int .u8 a1_18, .int .u8 a1_19, .int .u8 a1_20, .slice (some ad161) l1_21.length c1_21] 30 (0, 0)) (by (with_reducible repeat (first | refine blk_drewN ?_ _ | refine blk_drew ?_ | refine blk_alloc ?_ _)); exact BK148.out)) : gb148 ≠ gb162)); have n7_ := Aside0.mk ((by rw [hg]; exact Nat.ne_of_gt (blk_lt (g := gb148) (o := .cells #[.int .u8 a1_0, .int .u8 a1_1, .int .u16 a1_2, .int .u16 a1_3, .int .u16 a1_4, .int .u16 a1_5, .int .u16 a1_6, .int .u16 a1_7, .int .u16 a1_8, .int .u16 a1_9, .int .u16 a1_10, .int .u16 a1_11, .slice A1_12 l1_12.length c1_12, .slice A1_13 l1_13.length c1_13, .slice A1_14 l1_14.length c1_14, .slice A1_15 l1_15.length c1_15, .int .u8 a1_16, .int .u8 a1_17, .int .u8 a1_18, .int .u8 a1_19, .int .u8 a1_20, .slice (some ad161) l1_21.length c1_21] 30 (0, 0)) (by (with_reducible repeat (first | refine blk_drewN ?_ _ | refine blk_drew ?_ | refine blk_alloc ?_ _)); exact BK148.out)) : gb162 ≠ gb148)); clear HO_5; clear BK148; clear HB; have HO_5 := n0_; have BK148 := n1_; have HB := n2_; have BK162 := n3_; have GW162 := n4_; have GE162 := n5_; have NB148_162 := n6_; have NB162_148 := n7_; clear n0_ n1_ n2_ n3_ n4_ n5_ n6_ n7_; clear hb hbox hg; have hnb27 := NB162_148.out; have hnc27 := NB148_162.out; have hcz28_0 : w26.cell? ⟨gb162, 0, none⟩ = some (.int .u8 0) := (blk_cell BK162.out 0).trans rfl; have hcz28_1 : w26.cell? ⟨gb162, 1, none⟩ = some (.slice none 0 0) := (blk_cell BK162.out 1).trans rfl; have hfz28_0 := blk_frozen BK162.out 0; have hfz28_1 := blk_frozen BK162.out 1))
                    have n0_ : Aside0 (Kd.R (Kd.int .u8) 5 ((w26.setCell ⟨gb162, 0, none⟩ (.int .u8 ((rd_T43 l1_21 x46_1).f0))).setCell ⟨gb162, 1, none⟩ (.slice A161_1 ((rd_T43 l1_21 x46_1).f1).length c161_1)) w.heap.size (fun _ => True) u5 x5_1) := ⟨by (with_reducible repeat (first | apply Kd.R_alloc | apply Kd.R_drewN | apply Kd.R_drew)); exact Kd.R_mono (Kd.R_far (p := ⟨gb162, 1, none⟩) (Kd.R_far (p := ⟨gb162, 0, none⟩) (Kd.R_types HO_5.out BK162.out (by decide)) (fun _ hk => hk.2) (.int .u8 ((rd_T43 l1_21 x46_1).f0))) (fun _ hk => hk.2) (.slice A161_1 ((rd_T43 l1_21 x46_1).f1).length c161_1)) (fun _ hk => trivial)⟩
                    have n1_ : Aside0 (((w26.setCell ⟨gb162, 0, none⟩ (.int .u8 ((rd_T43 l1_21 x46_1).f0))).setCell ⟨gb162, 1, none⟩ (.slice A161_1 ((rd_T43 l1_21 x46_1).f1).length c161_1)).heap[gb148]? = some (.cells #[.int .u8 a1_0, .int .u8 a1_1, .int .u16 a1_2, .int .u16 a1_3, .int .u16 a1_4, .int .u16 a1_5, .int .u16 a1_6, .int .u16 a1_7, .int .u16 a1_8, .int .u16 a1_9, .int .u16 a1_10, .int .u16 a1_11, .slice A1_12 l1_12.length c1_12, .slice A1_13 l1_13.length c1_13, .slice A1_14 l1_14.length c1_14, .slice A1_15 l1_15.length c1_15, .int .u8 a1_16, .int .u8 a1_17, .int .u8 a1_18, .int .u8 a1_19, .int .u8 a1_20, .slice (some ad161) l1_21.length c1_21] 30 (0, 0))) := ⟨by (with_reducible repeat (first | refine blk_drewN ?_ _ | refine blk_drew ?_ | refine blk_alloc ?_ _)); refine blk_far ?_ NB148_162.out _; (with_reducible repeat (first | refine blk_drewN ?_ _ | refine blk_drew ?_ | refine blk_alloc ?_ _)); refine blk_far ?_ NB148_162.out _; (with_reducible repeat (first | refine blk_drewN ?_ _ | refine blk_drew ?_ | refine blk_alloc ?_ _)); exact BK148.out⟩
                    have n2_ : Aside0 (((w26.setCell ⟨gb162, 0, none⟩ (.int .u8 ((rd_T43 l1_21 x46_1).f0))).setCell ⟨gb162, 1, none⟩ (.slice A161_1 ((rd_T43 l1_21 x46_1).f1).length c161_1)).heap[gb162]? = some (.cells #[.int .u8 ((rd_T43 l1_21 x46_1).f0), .slice A161_1 ((rd_T43 l1_21 x46_1).f1).length c161_1] 43 (0, 0))) := ⟨by (with_reducible repeat (first | refine blk_drewN ?_ _ | refine blk_drew ?_ | refine blk_alloc ?_ _)); refine blk_put (cs := #[.int .u8 ((rd_T43 l1_21 x46_1).f0), .slice none 0 0]) ?_ 1 _ rfl; (with_reducible repeat (first | refine blk_drewN ?_ _ | refine blk_drew ?_ | refine blk_alloc ?_ _)); refine blk_put (cs := #[.int .u8 0, .slice none 0 0]) ?_ 0 _ rfl; (with_reducible repeat (first | refine blk_drewN ?_ _ | refine blk_drew ?_ | refine blk_alloc ?_ _)); exact BK162.out⟩
                    have n3_ : Aside0 (Below w.heap.size w ((w26.setCell ⟨gb162, 0, none⟩ (.int .u8 ((rd_T43 l1_21 x46_1).f0))).setCell ⟨gb162, 1, none⟩ (.slice A161_1 ((rd_T43 l1_21 x46_1).f1).length c161_1))) := ⟨by repeat (first | (with_reducible first | exact HB.out | apply below_alloc | apply pw_below_drewN | apply below_drew1 | refine below_set ?_ GE148.out | refine below_set ?_ GE162.out) | exact HB.out)⟩
                    (try clear HO_5)
                    (try clear BK148)
                    (try clear BK162)
                    (try clear HB)
                    generalize ((w26.setCell ⟨gb162, 0, none⟩ (.int .u8 ((rd_T43 l1_21 x46_1).f0))).setCell ⟨gb162, 1, none⟩ (.slice A161_1 ((rd_T43 l1_21 x46_1).f1).length c161_1)) = w29 at n0_ n1_ n2_ n3_ ⊢
                    have HO_5 := n0_
                    have BK148 := n1_
                    have BK162 := n2_
                    have HB := n3_
                    clear n0_ n1_ n2_ n3_
                    have n0_ := Aside0.mk (Kd.R_drew HO_5.out)
                    have n1_ := Aside0.mk (blk_drew BK148.out)
                    have n2_ := Aside0.mk (blk_drew BK162.out)
                    have n3_ := Aside0.mk (below_drew1 HB.out)
                    clear HO_5
                    clear BK148
                    clear BK162
                    clear HB
                    have HO_5 := n0_
                    have BK148 := n1_
                    have BK162 := n2_
                    have HB := n3_
                    clear n0_ n1_ n2_ n3_
                    refine start_ (n := 13) (S := fun w' => w'.cell? ⟨gb162, 0, none⟩ = some (.int .u8 ((rd_T43 l1_21 x46_1).f0)) ∧ w'.cell? ⟨gb162, 1, none⟩ = some (.slice A161_1 ((rd_T43 l1_21 x46_1).f1).length c161_1)) (ds := []) #[false, false, false, false, false, false, false, false, false, false, false, false, false] (by kernel_rfl) rfl rfl ⟨(blk_cell BK162.out 0).trans rfl, (blk_cell BK162.out 1).trans rfl⟩ (fun hHeld => ?_); refine with_tabW mei_lay.tab9 mei_lay.bits9 (fun HT_ HW_ => ?_)
                    generalize w29.drew = w30 at HO_5 BK148 BK162 HB hHeld ⊢
                    refine pure_ (i := 0) (N := some 50) (v := ?_) (a' := ?_) #[true, false, false, false, false, false, false, false, false, false, false, false, false] rfl rfl (any_of HT_.out (by kernel_rfl)) (fun _ _ _ h => h) (Or.inl ⟨by rfl, ?_⟩) ?_ ?_
                    rotate_left
                    · intro w'
                      go_simp
                      with_reducible rfl
                    rotate_left
                    · simp only [Act.put, List.setIfInBounds_toArray, List.set_cons_zero, List.set_cons_succ, i64_w, i32_w]
                      rfl
                    refine pure_ (i := 1) (N := some 51) (v := ?_) (a' := ?_) #[true, true, false, false, false, false, false, false, false, false, false, false, false] rfl rfl (any_of HT_.out (by kernel_rfl)) (fun _ _ _ h => h) (Or.inl ⟨by rfl, ?_⟩) ?_ ?_
                    rotate_left
                    · intro w'
                      go_simp
                      with_reducible rfl
                    rotate_left
                    · simp only [Act.put, List.setIfInBounds_toArray, List.set_cons_zero, List.set_cons_succ, i64_w, i32_w]
                      rfl
                    refine pure_ (i := 3) (N := some 53) (v := ?_) (a' := ?_) #[true, true, false, true, false, false, false, false, false, false, false, false, false] rfl rfl (any_of HT_.out (by kernel_rfl)) (fun _ _ _ h => h) (Or.inl ⟨by rfl, ?_⟩) ?_ ?_
                    rotate_left
                    · intro w'
                      go_simp
                      with_reducible rfl
                    rotate_left
                    · simp only [Act.put, List.setIfInBounds_toArray, List.set_cons_zero, List.set_cons_succ, i64_w, i32_w]
                      rfl
                    refine pure_ (i := 9) (N := some 59) (v := ?_) (a' := ?_) #[true, true, false, true, false, false, false, false, false, true, false, false, false] rfl rfl (any_of HT_.out (by kernel_rfl)) (fun _ _ _ h => h) (Or.inl ⟨by rfl, ?_⟩) ?_ ?_
                    rotate_left
                    · intro w'
                      go_simp
                      with_reducible rfl
                    rotate_left
                    · simp only [Act.put, List.setIfInBounds_toArray, List.set_cons_zero, List.set_cons_succ, i64_w, i32_w]
                      rfl
                    refine take_ (i := 2) (N := some 52) (v := ?_) (a' := ?_) #[true, true, true, true, false, false, false, false, false, true, false, false, false] rfl rfl (take_ofW HT_.out HW_.out (by kernel_rfl)) (fun _ _ _ h => h) (Or.inl ⟨by rfl, ?_⟩) hHeld ?_ ?_
                    rotate_left
                    · rintro w' ⟨s0, s1⟩
                      go_simp
                      with_reducible rfl
                    rotate_left
                    · simp only [Act.put, List.setIfInBounds_toArray, List.set_cons_zero, List.set_cons_succ, i64_w, i32_w]
                      rfl
                    refine take_ (i := 4) (N := some 54) (v := ?_) (a' := ?_) #[true, true, true, true, true, false, false, false, false, true, false, false, false] rfl rfl (take_ofW HT_.out HW_.out (by kernel_rfl)) (fun _ _ _ h => h) (Or.inl ⟨by rfl, ?_⟩) hHeld ?_ ?_
                    rotate_left
                    · rintro w' ⟨s0, s1⟩
                      go_simp
                      with_reducible rfl
                    rotate_left
                    · simp only [Act.put, List.setIfInBounds_toArray, List.set_cons_zero, List.set_cons_succ, i64_w, i32_w]
                      rfl
                    refine pure_ (i := 5) (N := some 55) (v := ?_) (a' := ?_) #[true, true, true, true, true, true, false, false, false, true, false, false, false] rfl rfl (any_of HT_.out (by kernel_rfl)) (fun _ _ _ h => h) (Or.inl ⟨by rfl, ?_⟩) ?_ ?_
                    rotate_left
                    · intro w'
                      go_simp
                      with_reducible rfl
                    rotate_left
                    · simp only [Act.put, List.setIfInBounds_toArray, List.set_cons_zero, List.set_cons_succ, i64_w, i32_w]
                      rfl
                    refine pure_ (i := 6) (N := some 56) (v := ?_) (a' := ?_) #[true, true, true, true, true, true, true, false, false, true, false, false, false] rfl rfl (any_of HT_.out (by kernel_rfl)) (fun _ _ _ h => h) (Or.inl ⟨by rfl, ?_⟩) ?_ ?_
                    rotate_left
                    · intro w'
                      go_simp
                      with_reducible rfl
                    rotate_left
                    · simp only [Act.put, List.setIfInBounds_toArray, List.set_cons_zero, List.set_cons_succ, i64_w, i32_w]
                      rfl
                    refine take_ (i := 10) (N := some 60) (v := ?_) (a' := ?_) #[true, true, true, true, true, true, true, false, false, true, true, false, false] rfl rfl (take_ofW HT_.out HW_.out (by kernel_rfl)) (fun _ _ _ h => h) (Or.inl ⟨by rfl, ?_⟩) hHeld ?_ ?_
                    rotate_left
                    · rintro w' ⟨s0, s1⟩
                      go_simp
                      with_reducible rfl
                    rotate_left
                    · simp only [Act.put, List.setIfInBounds_toArray, List.set_cons_zero, List.set_cons_succ, i64_w, i32_w]
                      rfl
                    refine one_ (i := 7) (N := some 57) #[true, true, true, true, true, true, true, true, false, true, true, false, false] rfl rfl (one_of HT_.out (by kernel_rfl)) (by decide) (fun K hK => ?_)
                    refine Kd.R_lit_step (Kd.int .u8) _ 5 ?hg (N := 57) ?hd (xs := ([(rd_T43 l1_21 x46_1).f0, ((((rd_T43 l1_21 x46_1).f1).length : Int)) % 256] : List Int)) (inner := [.int .u8 ((rd_T43 l1_21 x46_1).f0), .int .u8 (((((rd_T43 l1_21 x46_1).f1).length : Int)) % 256)]) (ok := fun _ => True) (okp := fun _ => True) ?hr ?hp (fun _ hk => hk) trivial (Below.refl _ _) (Nat.le_refl _) (by simp) ?_; (case hd => rfl); (case hg => rfl); (case hr => first | (go_simp; done) | (go_simp; rfl)); (case hp => exact (Reps.one (show Kd.M (Kd.int .u8) _ _ _ ((rd_T43 l1_21 x46_1).f0) [.int .u8 ((rd_T43 l1_21 x46_1).f0)] from rfl) (Reps.one (show Kd.M (Kd.int .u8) _ _ _ (((((rd_T43 l1_21 x46_1).f1).length : Int)) % 256) [.int .u8 (((((rd_T43 l1_21 x46_1).f1).length : Int)) % 256)] from rfl) (Reps.none _ _))))
                    intro v164 w31 ho32 hb hg_ hnew_
                    clear hg_ hnew_
                    (first | rw [← Ny163.out] at ho32 | (simp only [Int.reduceToNat] at ho32; rw [← Ny163.out] at ho32))
                    have n0_ := Aside0.mk (Kd.R_elder' (by (with_reducible repeat (first | apply Kd.R_alloc | apply Kd.R_drewN | apply Kd.R_drew)); exact HO_5.out) (Kd.R_base ho32) hb)
                    have n1_ := Aside0.mk (Kd.R_lower (Kd.R_new' ho32 (Kd.R_lt (by (with_reducible repeat (first | apply Kd.R_alloc | apply Kd.R_drewN | apply Kd.R_drew)); exact HO_5.out))) (below_size (by repeat (first | (with_reducible first | exact HB.out | apply below_alloc | apply pw_below_drewN | apply below_drew1 | refine below_set ?_ GE148.out | refine below_set ?_ GE162.out) | exact HB.out))))
                    have n2_ := Aside0.mk (blk_below (g := gb148) (o := .cells #[.int .u8 a1_0, .int .u8 a1_1, .int .u16 a1_2, .int .u16 a1_3, .int .u16 a1_4, .int .u16 a1_5, .int .u16 a1_6, .int .u16 a1_7, .int .u16 a1_8, .int .u16 a1_9, .int .u16 a1_10, .int .u16 a1_11, .slice A1_12 l1_12.length c1_12, .slice A1_13 l1_13.length c1_13, .slice A1_14 l1_14.length c1_14, .slice A1_15 l1_15.length c1_15, .int .u8 a1_16, .int .u8 a1_17, .int .u8 a1_18, .int .u8 a1_19, .int .u8 a1_20, .slice (some ad161) l1_21.length c1_21] 30 (0, 0)) (by (with_reducible repeat (first | refine blk_drewN ?_ _ | refine blk_drew ?_ | refine blk_alloc ?_ _)); exact BK148.out) hb)
                    have n3_ := Aside0.mk (blk_below (g := gb162) (o := .cells #[.int .u8 ((rd_T43 l1_21 x46_1).f0), .slice A161_1 ((rd_T43 l1_21 x46_1).f1).length c161_1] 43 (0, 0)) (by (with_reducible repeat (first | refine blk_drewN ?_ _ | refine blk_drew ?_ | refine blk_alloc ?_ _)); exact BK162.out) hb)
                    have n4_ := Aside0.mk (below_step (by repeat (first | (with_reducible first | exact HB.out | apply below_alloc | apply pw_below_drewN | apply below_drew1 | refine below_set ?_ GE148.out | refine below_set ?_ GE162.out) | exact HB.out)) hb)
                    clear HO_5
                    clear BK148
                    clear BK162
                    clear HB
                    have HO_5 := n0_
                    have HO165 := n1_
                    have BK148 := n2_
                    have BK162 := n3_
                    have HB := n4_
                    clear n0_ n1_ n2_ n3_ n4_
                    clear hb ho32
                    obtain ⟨Ao34, co34, eo34⟩ := Kd.R_slice HO165.out
                    (first | subst eo34 | (injection eo34 with f1_ f2_ f3_; have f4_ := f1_.symm; have f5_ := f3_.symm; clear f1_ f2_ f3_; subst f4_; subst f5_))
                    refine hK.out _ _ ⟨(blk_cell BK162.out 0).trans rfl, (blk_cell BK162.out 1).trans rfl⟩ (fun hHeld => ?_)
                    clear hK K
                    refine norm_ (a' := ?_) ?_ ?_
                    rotate_left
                    · show Act.put _ (some 57) _ = _
                      simp only [Act.put, List.setIfInBounds_toArray, List.set_cons_zero, List.set_cons_succ, i64_w, i32_w]
                      rfl
                    refine one_ (i := 8) (N := some 58) #[true, true, true, true, true, true, true, true, true, true, true, false, false] rfl rfl (one_of HT_.out (by kernel_rfl)) (by decide) (fun K hK => ?_)
                    refine Kd.R_append_rows_step (Kd.int .u8) (w0 := w) w.heap.size (by rfl) (.tmp 50) (.tmp 57) 22 5 (.int .u8 0) 1 rfl Try.underlying22 info5 rfl (by decide) (by omega) u5 x5_1 y163 _ _ _ (fun k_ => some k_ ≠ (.slice Ao34 y163.length co34 : Value).ownBlock) (fun _ => False) rfl rfl ?aO ?aR (fun _ _ h => h) (fun _ h => h.elim) ?aF ?aB ?aS ?aL ?_
                    (case aR => repeat (first | exact (Kd.R_reads' HO165.out).2.2 | (with_reducible refine Kd.C_alloc ?_ _) | (with_reducible refine Kd.C_drewN ?_ _) | (with_reducible refine Kd.C_drew ?_)))
                    (case aB => exact (by repeat (first | (with_reducible first | exact HB.out | apply below_alloc | apply pw_below_drewN | apply below_drew1 | refine below_set ?_ GE148.out | refine below_set ?_ GE162.out) | exact HB.out)))
                    (case aF => exact (fun k_ hk => Kd.fresh' (Kd.R_lt (by (with_reducible repeat (first | apply Kd.R_alloc | apply Kd.R_drewN | apply Kd.R_drew)); exact HO165.out)) k_ hk))
                    (case aO => exact (by (with_reducible repeat (first | apply Kd.R_alloc | apply Kd.R_drewN | apply Kd.R_drew)); exact Kd.R_mono HO_5.out (fun _ hk => hk.2)))
                    (case aS => exact (below_size (by repeat (first | (with_reducible first | exact HB.out | apply below_alloc | apply pw_below_drewN | apply below_drew1 | refine below_set ?_ GE148.out | refine below_set ?_ GE162.out) | exact HB.out))))
                    (case aL => have := LMc24.out; omega)
                    intro v167 w33 ho hb hg hat
                    rw [← Ny166.out] at ho
                    have n0_ := Aside0.mk (blk_grown (g := gb148) (o := .cells #[.int .u8 a1_0, .int .u8 a1_1, .int .u16 a1_2, .int .u16 a1_3, .int .u16 a1_4, .int .u16 a1_5, .int .u16 a1_6, .int .u16 a1_7, .int .u16 a1_8, .int .u16 a1_9, .int .u16 a1_10, .int .u16 a1_11, .slice A1_12 l1_12.length c1_12, .slice A1_13 l1_13.length c1_13, .slice A1_14 l1_14.length c1_14, .slice A1_15 l1_15.length c1_15, .int .u8 a1_16, .int .u8 a1_17, .int .u8 a1_18, .int .u8 a1_19, .int .u8 a1_20, .slice (some ad161) l1_21.length c1_21] 30 (0, 0)) (by (with_reducible repeat (first | refine blk_drewN ?_ _ | refine blk_drew ?_ | refine blk_alloc ?_ _)); exact BK148.out) hg (Kd.R_ne HO_5.out BK148.out (by decide)))
                    have n1_ := Aside0.mk (blk_grown (g := gb162) (o := .cells #[.int .u8 ((rd_T43 l1_21 x46_1).f0), .slice A161_1 ((rd_T43 l1_21 x46_1).f1).length c161_1] 43 (0, 0)) (by (with_reducible repeat (first | refine blk_drewN ?_ _ | refine blk_drew ?_ | refine blk_alloc ?_ _)); exact BK162.out) hg (Kd.R_ne HO_5.out BK162.out (by decide)))
                    have n2_ := Aside0.mk (Kd.R_after (ok := (fun _ => True)) (by (with_reducible repeat (first | apply Kd.R_alloc | apply Kd.R_drewN | apply Kd.R_drew)); exact HO165.out) hg hat)
                    have n3_ := Aside0.mk (hb)
                    have n4_ := Aside0.mk (ho)
                    clear BK148
                    clear BK162
                    clear HO165
                    clear HB
                    clear HO_5
                    have BK148 := n0_
                    have BK162 := n1_
                    have HO165 := n2_
                    have HB := n3_
                    have HO168 := n4_
                    clear n0_ n1_ n2_ n3_ n4_
                    clear ho hb hg hat
                    refine hK.out _ _ ⟨(blk_cell BK162.out 0).trans rfl, (blk_cell BK162.out 1).trans rfl⟩ (fun hHeld => ?_)
                    clear hK K
                    refine norm_ (a' := ?_) ?_ ?_
                    rotate_left
                    · show Act.put _ (some 58) _ = _
                      simp only [Act.put, List.setIfInBounds_toArray, List.set_cons_zero, List.set_cons_succ, i64_w, i32_w]
                      rfl
                    refine one_ (i := 11) (N := some 61) #[true, true, true, true, true, true, true, true, true, true, true, true, false] rfl rfl (one_of HT_.out (by kernel_rfl)) (by decide) (fun K hK => ?_)
                    refine Kd.R_append_rows_step (Kd.int .u8) (w0 := w) w.heap.size (by rfl) (.tmp 58) (.tmp 60) 22 5 (.int .u8 0) 1 rfl Try.underlying22 info5 rfl (by decide) (by omega) v167 y166 ((rd_T43 l1_21 x46_1).f1) _ _ _ (fun k_ => some k_ ≠ (.slice Ao34 y163.length co34 : Value).ownBlock) (fun _ => False) rfl rfl ?aO ?aR (fun _ _ h => h) (fun _ h => h.elim) ?aF ?aB ?aS ?aL ?_
                    (case aR => repeat (first | exact (Kd.C_below HR161_1.out HB.out) | (with_reducible refine Kd.C_alloc ?_ _) | (with_reducible refine Kd.C_drewN ?_ _) | (with_reducible refine Kd.C_drew ?_)))
                    (case aB => exact (by repeat (first | (with_reducible first | exact HB.out | apply below_alloc | apply pw_below_drewN | apply below_drew1 | refine below_set ?_ GE148.out | refine below_set ?_ GE162.out) | exact HB.out)))
                    (case aF => exact (fun k_ hk => Kd.fresh' (Kd.R_lt (by (with_reducible repeat (first | apply Kd.R_alloc | apply Kd.R_drewN | apply Kd.R_drew)); exact HO165.out)) k_ hk))
                    (case aO => exact (by (with_reducible repeat (first | apply Kd.R_alloc | apply Kd.R_drewN | apply Kd.R_drew)); exact HO168.out))
                    (case aS => exact (below_size (by repeat (first | (with_reducible first | exact HB.out | apply below_alloc | apply pw_below_drewN | apply below_drew1 | refine below_set ?_ GE148.out | refine below_set ?_ GE162.out) | exact HB.out))))
                    (case aL => have := LMc25.out; omega)
                    intro v170 w35 ho hb hg hat
                    rw [← Ny169.out] at ho
                    have n0_ := Aside0.mk (blk_grown (g := gb148) (o := .cells #[.int .u8 a1_0, .int .u8 a1_1, .int .u16 a1_2, .int .u16 a1_3, .int .u16 a1_4, .int .u16 a1_5, .int .u16 a1_6, .int .u16 a1_7, .int .u16 a1_8, .int .u16 a1_9, .int .u16 a1_10, .int .u16 a1_11, .slice A1_12 l1_12.length c1_12, .slice A1_13 l1_13.length c1_13, .slice A1_14 l1_14.length c1_14, .slice A1_15 l1_15.length c1_15, .int .u8 a1_16, .int .u8 a1_17, .int .u8 a1_18, .int .u8 a1_19, .int .u8 a1_20, .slice (some ad161) l1_21.length c1_21] 30 (0, 0)) (by (with_reducible repeat (first | refine blk_drewN ?_ _ | refine blk_drew ?_ | refine blk_alloc ?_ _)); exact BK148.out) hg (Kd.R_ne HO168.out BK148.out (by decide)))
                    have n1_ := Aside0.mk (blk_grown (g := gb162) (o := .cells #[.int .u8 ((rd_T43 l1_21 x46_1).f0), .slice A161_1 ((rd_T43 l1_21 x46_1).f1).length c161_1] 43 (0, 0)) (by (with_reducible repeat (first | refine blk_drewN ?_ _ | refine blk_drew ?_ | refine blk_alloc ?_ _)); exact BK162.out) hg (Kd.R_ne HO168.out BK162.out (by decide)))
                    have n2_ := Aside0.mk (Kd.R_after (ok := (fun _ => True)) (by (with_reducible repeat (first | apply Kd.R_alloc | apply Kd.R_drewN | apply Kd.R_drew)); exact HO165.out) hg hat)
                    have n3_ := Aside0.mk (hb)
                    have n4_ := Aside0.mk (ho)
                    clear BK148
                    clear BK162
                    clear HO165
                    clear HB
                    clear HO168
                    have BK148 := n0_
                    have BK162 := n1_
                    have HO165 := n2_
                    have HB := n3_
                    have HO171 := n4_
                    clear n0_ n1_ n2_ n3_ n4_
                    clear ho hb hg hat
                    refine hK.out _ _ ⟨(blk_cell BK162.out 0).trans rfl, (blk_cell BK162.out 1).trans rfl⟩ (fun hHeld => ?_)
                    clear hK K
                    refine norm_ (a' := ?_) ?_ ?_
                    rotate_left
                    · show Act.put _ (some 61) _ = _
                      simp only [Act.put, List.setIfInBounds_toArray, List.set_cons_zero, List.set_cons_succ, i64_w, i32_w]
                      rfl
                    refine pure_ (i := 12) (N := some 5) (v := ?_) (a' := ?_) #[true, true, true, true, true, true, true, true, true, true, true, true, true] rfl rfl (any_of HT_.out (by kernel_rfl)) (fun _ _ _ h => h) (Or.inl ⟨by rfl, ?_⟩) ?_ ?_
                    rotate_left
                    · intro w'
                      go_simp
                      with_reducible rfl
                    rotate_left
                    · simp only [Act.put, List.setIfInBounds_toArray, List.set_cons_zero, List.set_cons_succ, i64_w, i32_w]
                      rfl
                    refine done_ (done_of HT_.out (by kernel_rfl)) ?_
                    try go_wp2
                    go_roundg k1
                    case measure => have := HK1.out; omega
                    case rel => exact ⟨(y169), (wrap64 (x46_1 + 1)), (by first | rfl | (simp; done) | (simp [*]; done)), H', ⟨by have := HK1.out; omega⟩, ⟨by (with_reducible repeat (first | apply Kd.R_alloc | apply Kd.R_drewN | apply Kd.R_drew)); exact Kd.R_mono HO171.out (fun _ hk => trivial)⟩, ⟨by (with_reducible repeat (first | refine blk_drewN ?_ _ | refine blk_drew ?_ | refine blk_alloc ?_ _)); exact BK148.out⟩, ⟨by repeat (first | (with_reducible first | exact HB.out | apply below_alloc | apply pw_below_drewN | apply below_drew1 | refine below_set ?_ GE148.out | refine below_set ?_ GE162.out) | exact HB.out)⟩⟩
                  · rw [if_neg c25] at H
                    exact absurd H (by simp)
                · rw [if_neg c24] at H
                  exact absurd H (by simp)
              · rw [if_neg c23] at H
                exact absurd H (by simp)
            · rw [if_neg c22] at H
              exact absurd H (by simp)
          · rw [if_neg c21] at H
            have c21b0 : decide (x46_1 < (l1_21.length : Int)) = false := decide_eq_false c21
            clear c21
            obtain rfl := Option.some.inj H
            go_wp2
            go_ret
            exact ⟨_, by first | rfl | (simp [errW_none, errW_some] <;> rfl) | (simp [*, errW_none, errW_some] <;> rfl), by (with_reducible repeat (first | apply Kd.R_alloc | apply Kd.R_drewN | apply Kd.R_drew)); exact HO_5.out, by repeat (first | (with_reducible first | exact HB.out | apply below_alloc | apply pw_below_drewN | apply below_drew1 | refine below_set ?_ GE148.out) | exact HB.out)⟩
end Go.Proofs.Ytimclbhlgblifaa.P
end
section
namespace Go.Proofs.Ytimclbhlgblifaa.P
open Go.RowKit Go.Proofs.YtimclbhlgblifaaW.PrintWords Go.Proofs.YtimclbhlgblifaaW.PrintLast Go.Proofs.YtimclbhlgblifaaW.PrintMore
attribute [local go_sem] max2_int min2_int max_two min_two max_three min_three max_four min_four   -- for this text's walks alone
end Go.Proofs.Ytimclbhlgblifaa.P
end
section
namespace Go.Proofs.Ytimclbhlgblifaa.Mei
open Go.RowKit Go.Proofs.Ytimclbhlgblifaa.P Go.Proofs.Ytimclbhlgblifaa.E Go.Proofs.Ytimclbhlgblifaa.Cur Go.Proofs.Ytimclbhlgblifaa.Cu Go.Proofs.Ytimclbhlgblifaa.Same Go.Proofs.Ytimclbhlgblifaa.Com Go.Proofs.YtimclbhlgblifaaW.PrintWords Go.Proofs.YtimclbhlgblifaaW.PrintLast Go.Proofs.YtimclbhlgblifaaW.PrintMore
def objsB : List S43 → List Int
  | [] => []
  | o :: r => o.f0 :: ((o.f1.length : Int) % 256) :: (o.f1 ++ objsB r)
theorem objsB_ge : ∀ os : List S43, os.length ≤ (objsB os).length
  | [] => Nat.le_refl _
  | o :: r => by
    have := objsB_ge r
    simp only [objsB, List.length_cons, List.length_append]
    omega
def lay (dir : Int) (m : Msg) : List Int :=
  if m.mei = 13 then m.mei :: m.data else if dir = 0 then [m.mei, m.kind, m.next] else [m.mei, m.kind, m.level, m.more, m.next, (m.objects.length : Int) % 256] ++ objsB m.objects
theorem rd_obj (os : List S43) (i : Nat) (h : i < os.length) : os.drop i = rd_T43 os (i : Int) :: os.drop (i + 1) := by
  unfold rd_T43
  rw [Int.toNat_natCast]
  exact drop_cons h _
theorem lay_l0 (os : List S43) (ho : os.length ≤ 1000000) : ∀ (d i : Nat) (acc : List Int), d = os.length - i → i ≤ os.length → acc.length + (objsB (os.drop i)).length ≤ 1000000 → mei_lay.l0 (d + 1) acc os (os.length : Int) (i : Int) = some (acc ++ objsB (os.drop i)) := by
  intro d
  induction d with
  | zero =>
    intro i acc hd hi hb
    have e : i = os.length := by omega
    subst e
    unfold mei_lay.l0
    rw [if_neg (by omega), List.drop_length]
    simp [objsB]
  | succ d ih =>
    intro i acc hd hi hb
    have hlt : i < os.length := by omega
    have hr := rd_obj os i hlt
    rw [hr] at hb ⊢
    generalize rd_T43 os (i : Int) = o at hb hr ⊢
    have hb2 : acc.length + (2 + (o.f1.length + (objsB (os.drop (i + 1))).length)) ≤ 1000000 := by
      have := hb
      simp only [objsB, List.length_cons, List.length_append] at this
      omega
    have h2 := ih (i + 1) (acc ++ [o.f0, (o.f1.length : Int) % 256] ++ o.f1) (by omega) (by omega) (by simp only [List.length_append, List.length_cons, List.length_nil]; omega)
    unfold mei_lay.l0
    have e1 : rd_T43 os (i : Int) = o := by
      have := rd_obj os i hlt
      rw [hr] at this
      exact (List.cons.inj this).1.symm
    have e2 : wrap64 ((i : Int) + 1) = ((i + 1 : Nat) : Int) := by rw [wrap64_id (by omega) (by omega)]; omega
    rw [if_pos (show (i : Int) < (os.length : Int) by omega), if_pos (show (0 : Int) ≤ (i : Int) by omega), if_pos (show (i : Int) < (os.length : Int) by omega), e1, e2]
    simp only [Option.bind_some]
    rw [if_pos (show acc.length + [o.f0, (o.f1.length : Int) % 256].length < 140737488355328 by simp only [List.length_cons, List.length_nil]; omega)]
    rw [if_pos (show (acc ++ [o.f0, (o.f1.length : Int) % 256]).length + o.f1.length < 140737488355328 by simp only [List.length_append, List.length_cons, List.length_nil]; omega), h2]
    simp [objsB]
theorem lay_ev {dir : Int} {m : Msg} (h : (lay dir m).length ≤ 1000000) : ∃ k, mei_lay.f k dir m.code m.fail m.addr m.count m.value m.and_ m.or_ m.addr2 m.sub m.status m.events m.messages m.words m.bits m.data m.recs m.mei m.kind m.level m.more m.next m.objects = some (lay dir m) := by
  unfold lay at h ⊢
  unfold mei_lay.f
  by_cases h1 : m.mei = 13
  · refine ⟨0, ?_⟩
    rw [if_pos h1] at h ⊢
    rw [if_pos h1]
    simp only [Option.bind_some]
    rw [if_pos (by simp only [List.length_cons, List.length_nil] at h ⊢; omega)]
    rfl
  · rw [if_neg h1] at h ⊢
    by_cases h2 : dir = 0
    · refine ⟨0, ?_⟩
      rw [if_neg h1, if_pos h2, if_pos h2]
    · rw [if_neg h2] at h ⊢
      have ho : m.objects.length ≤ 1000000 := by
        have := objsB_ge m.objects
        simp only [List.length_append, List.length_cons, List.length_nil] at h
        omega
      refine ⟨m.objects.length + 1, ?_⟩
      rw [if_neg h1, if_neg h2]
      have := lay_l0 m.objects ho m.objects.length 0 [m.mei, m.kind, m.level, m.more, m.next, (m.objects.length : Int) % 256] (by omega) (by omega) (by simp only [List.length_append, List.drop_zero] at h ⊢; exact h)
      rw [List.drop_zero] at this
      exact this
theorem lay_any {dir : Int} {m : Msg} (h : (lay dir m).length ≤ 1000000) : LayC 34 dir m (lay dir m) := by
  intro cx W hm
  obtain ⟨A12, c12, A13, c13, A14, c14, A15, c15, A21, c21, rfl, ok, ⟨hr12, hc12⟩, ⟨hr13, hc13⟩, ⟨hr14, hc14⟩, ⟨hr15, hc15⟩, ⟨hr21, hc21⟩⟩ := hm
  obtain ⟨k, hk⟩ := lay_ev h
  refine (mei_lay.calls k _ _ _ _ _ _ _ _ _ _ _ _ _ A12 c12 m.words A13 c13 m.bits A14 c14 m.data A15 c15 m.recs _ _ _ _ _ A21 c21 m.objects _ W hr12 hc12 hr13 hc13 hr14 hc14 hr15 hc15 hr21 hc21 hk).mono ?_
  rintro en w' ⟨v, rfl, R, B⟩
  obtain ⟨A, c, rfl, hz, hr⟩ := Kd.R_reads R
  exact ⟨A, c, rfl, hz, hr, B⟩
theorem parse_c {dir code : Int} {l : List Int} (hs : l.length ≤ 1000000) (hb : isBytes l) : ParseC 12 dir code l (parse dir code l) := fun A c W hr hc => parse_any hr hc hs hb
theorem objsB_bytes : ∀ {os : List S43}, (∀ o ∈ os, (0 ≤ o.f0 ∧ o.f0 < 256) ∧ isBytes o.f1) → isBytes (objsB os)
  | [], _ => fun x h => by cases h
  | o :: r, h => by
    have h1 := h o List.mem_cons_self
    have h2 := objsB_bytes (fun o ho => h o (List.mem_cons_of_mem _ ho))
    intro x hx
    rcases List.mem_cons.1 hx with rfl | hx
    · exact h1.1
    rcases List.mem_cons.1 hx with rfl | hx
    · omega
    rcases List.mem_append.1 hx with hx | hx
    · exact h1.2 x hx
    · exact h2 x hx
theorem lay_bytes {dir : Int} {m : Msg} (h : goodM m) : isBytes (lay dir m) := by
  have G := goodM_num h
  obtain ⟨⟨a0, a1, a2, a3, a4, a5, a6, a7, a8, a9, a10, a11, a16, a17, a18, a19, a20⟩, a14, a21⟩ := G
  unfold lay
  split
  · intro x hx
    rcases List.mem_cons.1 hx with rfl | hx
    · exact a16
    · exact a14 x hx
  split
  · intro x hx
    simp only [List.mem_cons, List.not_mem_nil, or_false] at hx
    rcases hx with rfl | rfl | rfl
    · exact a16
    · exact a17
    · exact a20
  · refine isBytes_append (fun x hx => ?_) (objsB_bytes fun o ho => ⟨h.2.2.2 o ho, a21 o ho⟩)
    simp only [List.mem_cons, List.not_mem_nil, or_false] at hx
    rcases hx with rfl | rfl | rfl | rfl | rfl | rfl
    · exact a16
    · exact a17
    · exact a18
    · exact a19
    · exact a20
    · omega
def write (dir : Int) (m : Msg) : List Int × Int := writeR m (lay dir m) (parse dir m.code (lay dir m))
theorem write_c {dir : Int} {m : Msg} (h : (lay dir m).length ≤ 1000000) (hg : goodM m) : WriteC 16 dir m (write dir m) := write_of (lay_any h) (parse_c h (lay_bytes hg))
end Go.Proofs.Ytimclbhlgblifaa.Mei
end
section
namespace Go.Proofs.Ytimclbhlgblifaa.Mei
open Go.RowKit Go.Proofs.Ytimclbhlgblifaa.P Go.Proofs.Ytimclbhlgblifaa.E Go.Proofs.Ytimclbhlgblifaa.Cur Go.Proofs.Ytimclbhlgblifaa.Cu Go.Proofs.Ytimclbhlgblifaa.Same Go.Proofs.Ytimclbhlgblifaa.Code Go.Proofs.Ytimclbhlgblifaa.Com Go.Proofs.YtimclbhlgblifaaW.PrintWords Go.Proofs.YtimclbhlgblifaaW.PrintLast Go.Proofs.YtimclbhlgblifaaW.PrintMore
def objsR : Nat → (Cu → Cu × (List S43))
  | 0 => Rd.ret []
  | k + 1 => Rd.bind Rd.byte fun id => Rd.bind Rd.byte fun n => Rd.bind (Rd.bytes n) fun v => Rd.bind (objsR k) fun r => Rd.ret (⟨id, v⟩ :: r)
def ansR (m : Msg) : (Cu → Cu × Msg) := Rd.bind Rd.byte fun lv => Rd.bind (Rd.need (levB lv) 6) fun _ => Rd.bind Rd.byte fun mo => Rd.bind (Rd.need (mo == 0 || mo == 255) 6) fun _ => Rd.bind Rd.byte fun nx => Rd.bind (Rd.need (mo != 0 || nx == 0) 6) fun _ => Rd.bind Rd.byte fun k => Rd.bind (Rd.need (m.kind != 4 || k == 1) 5) fun _ => Rd.bind (objsR k.toNat) fun os => Rd.ret { m with level := lv, more := mo, next := nx, objects := os }
def tailR (dir : Int) (m : Msg) : (Cu → Cu × Msg) := Rd.bind Rd.byte fun kd => Rd.bind (Rd.need (decide (1 ≤ kd) && decide (kd ≤ 4)) 6) fun _ => if dir = 1 then ansR { m with kind := kd } else Rd.bind Rd.byte fun nx => Rd.ret { m with kind := kd, next := nx }
def otherR (m : Msg) : (Cu → Cu × Msg) := fun c => ((c.need (decide ((c.xs.length : Int) ≤ 251)) 5).bytesS (c.need (decide ((c.xs.length : Int) ≤ 251)) 5).xs.length, { m with data := (c.need (decide ((c.xs.length : Int) ≤ 251)) 5).bytesV (c.need (decide ((c.xs.length : Int) ≤ 251)) 5).xs.length })
def bodyR (dir code : Int) : (Cu → Cu × Msg) := Rd.bind Rd.byte fun x => Rd.bind (Rd.need (x == 13 || x == 14) 8) fun _ => if x = 13 then otherR { zeroM with code := code, mei := x } else tailR dir { zeroM with code := code, mei := x }
theorem objs_eq : ∀ (k : Nat) (c : Cu), objs k c = objsR k c
  | 0, _ => rfl
  | k + 1, c => by
    have h := objs_eq k (c.byteS.byteS.bytesS c.byteS.byteV)
    simp only [objs, objsR, Rd.bind, Rd.byte, Rd.bytes, Rd.ret, h]
theorem body_eq (dir code : Int) (bs : List Int) : body dir code bs = bodyR dir code (cu bs) := by
  have hc : (⟨bs, false, 0⟩ : Cu) = cu bs := rfl
  unfold body bodyR Rd.bind Rd.byte Rd.need
  rw [hc]
  dsimp only
  by_cases h : (cu bs).byteV = 13
  · rw [if_pos h]
    simp only [h]
    rfl
  · rw [if_neg h]
    simp only [if_neg h]
    unfold tailR Rd.bind Rd.byte Rd.need
    dsimp only
    by_cases hd : dir = 1
    · rw [if_pos hd]
      simp only [if_pos hd]
      unfold ans ansR Rd.bind Rd.byte Rd.need Rd.ret
      simp only [objs_eq]
    · rw [if_neg hd]
      simp only [if_neg hd]
      rfl
theorem objsR_cl : ∀ k, Cl (objsR k)
  | 0 => Cl.ret _
  | k + 1 => Cl.byte.bind fun _ => Cl.byte.bind fun _ => (Cl.bytes _).bind fun _ => (objsR_cl k).bind fun _ => Cl.ret _
theorem ansR_cl (m : Msg) : Cl (ansR m) := Cl.byte.bind fun _ => (Cl.need _ _).bind fun _ => Cl.byte.bind fun _ => (Cl.need _ _).bind fun _ => Cl.byte.bind fun _ => (Cl.need _ _).bind fun _ => Cl.byte.bind fun _ => (Cl.need _ _).bind fun _ => (objsR_cl _).bind fun _ => Cl.ret _
theorem tailR_cl (dir : Int) (m : Msg) : Cl (tailR dir m) := Cl.byte.bind fun _ => (Cl.need _ _).bind fun _ => Cl.ite (ansR_cl _) (Cl.byte.bind fun _ => Cl.ret _)
theorem objsR_run : ∀ (os : List S43) (t : List Int), (∀ o ∈ os, o.f1.length < 256) → objsR os.length (cu (objsB os ++ t)) = (cu t, os)
  | [], t, _ => rfl
  | o :: r, t, h => by
    have h1 := h o List.mem_cons_self
    have h2 := objsR_run r t (fun o ho => h o (List.mem_cons_of_mem _ ho))
    show Rd.bind Rd.byte _ (cu (o.f0 :: ((o.f1.length : Int) % 256) :: (o.f1 ++ objsB r ++ t))) = _
    rw [byte_run, byte_run, List.append_assoc, bytes_run _ o.f1 (objsB r ++ t) (by omega)]
    show ((objsR r.length (cu (objsB r ++ t))).1, _ :: (objsR r.length (cu (objsB r ++ t))).2) = _
    rw [h2]
theorem parse_ok {dir code : Int} {b : List Int} (h : (parse dir code b).2 = 0) : (dir = 0 ∨ dir = 1) ∧ code = 43 ∧ (body dir code b).1.fin.e = 0 ∧ parse dir code b = ((body dir code b).2, 0) := by
  unfold parse at h ⊢
  by_cases h1 : dir ≠ 0 ∧ dir ≠ 1
  · rw [if_pos h1] at h; exact absurd h (by decide)
  rw [if_neg h1] at h ⊢
  by_cases h2 : code ≠ 43
  · rw [if_pos h2] at h; exact absurd h (by decide)
  rw [if_neg h2] at h ⊢
  by_cases h3 : (body dir code b).1.fin.e ≠ 0
  · rw [if_pos h3] at h; exact absurd h h3
  rw [if_neg h3]
  exact ⟨by omega, by omega, by simpa using h3, rfl⟩
theorem parse_of {dir code : Int} {b : List Int} (hd : dir = 0 ∨ dir = 1) (hc : code = 43) (h : (body dir code b).1.fin.e = 0) : parse dir code b = ((body dir code b).2, 0) := by
  unfold parse
  rw [if_neg (by omega), if_neg (by omega), if_neg (by simpa using h)]
theorem parse_bad {dir code : Int} {b : List Int} (hd : dir = 0 ∨ dir = 1) (hc : code = 43) (h : (body dir code b).1.fin.e ≠ 0) : (parse dir code b).2 = (body dir code b).1.fin.e := by
  unfold parse
  rw [if_neg (by omega), if_neg (by omega), if_pos h]
theorem cut_e {dir : Int} {l : List Int} (hd : dir = 0 ∨ dir = 1) (h : (body dir 43 l).1.fin.e = 0) (h13 : l.headD 0 ≠ 13) {k : Nat} (hk : k < l.length) : (parse dir 43 (l.take k)).2 = 2 := by
  let r : (Cu → Cu × Msg) := Rd.bind Rd.byte fun x => Rd.bind (Rd.need (x == 13 || x == 14) 8) fun _ => tailR dir { zeroM with code := 43, mei := x }
  have hr : Cl r := Cl.byte.bind fun _ => (Cl.need _ _).bind fun _ => tailR_cl _ _
  have hx : ∀ xs : List Int, xs.headD 0 ≠ 13 → body dir 43 xs = r (cu xs) := by
    intro xs hxs
    rw [body_eq]
    have hv : (cu xs).byteV = xs.headD 0 := by
      cases xs with
      | nil => rfl
      | cons x t => exact byteV_cons x t
    show Rd.bind (Rd.need ((cu xs).byteV == 13 || (cu xs).byteV == 14) 8) (fun _ => if (cu xs).byteV = 13 then otherR { zeroM with code := 43, mei := (cu xs).byteV } else tailR dir { zeroM with code := 43, mei := (cu xs).byteV }) (cu xs).byteS = _
    rw [if_neg (by rw [hv]; exact hxs)]
    rfl
  have h1 := hr.cut (l := l) (by rw [← hx l h13]; exact h) hk
  have h2 : (l.take k).headD 0 ≠ 13 := by
    cases l with
    | nil => simp
    | cons x t =>
      cases k with
      | zero => simp
      | succ k => exact h13
  rw [← hx _ h2] at h1
  rw [parse_bad hd rfl (by rw [h1]; decide), h1]
theorem more_e {dir : Int} {l : List Int} (hd : dir = 0 ∨ dir = 1) (h : (body dir 43 l).1.fin.e = 0) (h13 : l.headD 0 ≠ 13) (hl : l ≠ []) (c : Int) : (parse dir 43 (l ++ [c])).2 = 3 := by
  let r : (Cu → Cu × Msg) := Rd.bind Rd.byte fun x => Rd.bind (Rd.need (x == 13 || x == 14) 8) fun _ => tailR dir { zeroM with code := 43, mei := x }
  have hr : Cl r := Cl.byte.bind fun _ => (Cl.need _ _).bind fun _ => tailR_cl _ _
  have hx : ∀ xs : List Int, xs.headD 0 ≠ 13 → body dir 43 xs = r (cu xs) := by
    intro xs hxs
    rw [body_eq]
    have hv : (cu xs).byteV = xs.headD 0 := by
      cases xs with
      | nil => rfl
      | cons x t => exact byteV_cons x t
    show Rd.bind (Rd.need ((cu xs).byteV == 13 || (cu xs).byteV == 14) 8) (fun _ => if (cu xs).byteV = 13 then otherR { zeroM with code := 43, mei := (cu xs).byteV } else tailR dir { zeroM with code := 43, mei := (cu xs).byteV }) (cu xs).byteS = _
    rw [if_neg (by rw [hv]; exact hxs)]
    rfl
  have h1 := hr.more (l := l) (by rw [← hx l h13]; exact h) c
  have h2 : (l ++ [c]).headD 0 ≠ 13 := by
    cases l with
    | nil => exact absurd rfl hl
    | cons x t => exact h13
  rw [← hx _ h2] at h1
  rw [parse_bad hd rfl (by rw [h1]; decide), h1]
theorem objsB_len : ∀ os : List S43, (∀ o ∈ os, o.f1.length ≤ 300) → (objsB os).length ≤ 302 * os.length
  | [], _ => Nat.le_refl _
  | o :: r, h => by
    have h1 := h o List.mem_cons_self
    have h2 := objsB_len r (fun o ho => h o (List.mem_cons_of_mem _ ho))
    simp only [objsB, List.length_cons, List.length_append]
    omega
theorem few_small {dir : Int} {m : Msg} (h : fewB m = true) : (lay dir m).length ≤ 40000 ∧ m.objects.length ≤ 100 ∧ ∀ o ∈ m.objects, o.f1.length ≤ 300 := by
  unfold fewB at h
  simp only [Bool.and_eq_true, decide_eq_true_eq, List.all_eq_true] at h
  obtain ⟨⟨h1, h2, h3, h4, h5⟩, h6, h7⟩ := h
  refine ⟨?_, h5, h7⟩
  have := objsB_len m.objects h7
  unfold lay
  split
  · simp only [List.length_cons]; omega
  split
  · simp only [List.length_cons, List.length_nil]; omega
  · simp only [List.length_append, List.length_cons, List.length_nil]; omega
theorem writeR_ok {m : Msg} {l : List Int} {P : Msg × Int} (h : (writeR m l P).2 = 0) : P.2 = 0 ∧ P.1 = m ∧ writeR m l P = (l, 0) := by
  unfold writeR at h ⊢
  by_cases hc : P.2 = 0 ∧ sameB P.1 m = true
  · rw [if_pos hc]
    exact ⟨hc.1, (same_eq _ _).1 hc.2, rfl⟩
  · rw [if_neg hc] at h
    exact absurd h (by decide)
theorem writeR_no {m : Msg} {l : List Int} {P : Msg × Int} (h : (writeR m l P).2 ≠ 0) : writeR m l P = ([], 1) := by
  unfold writeR at h ⊢
  by_cases hc : P.2 = 0 ∧ sameB P.1 m = true
  · rw [if_pos hc] at h
    exact absurd rfl h
  · rw [if_neg hc]
end Go.Proofs.Ytimclbhlgblifaa.Mei
end
section
namespace Go.Proofs.Ytimclbhlgblifaa.Mei
open Go.RowKit Go.Proofs.Ytimclbhlgblifaa.P Go.Proofs.Ytimclbhlgblifaa.E Go.Proofs.Ytimclbhlgblifaa.Cur Go.Proofs.Ytimclbhlgblifaa.Cu Go.Proofs.Ytimclbhlgblifaa.Same Go.Proofs.Ytimclbhlgblifaa.Code Go.Proofs.Ytimclbhlgblifaa.Com Go.Proofs.Ytimclbhlgblifaa.Mei Go.Proofs.YtimclbhlgblifaaW.PrintWords Go.Proofs.YtimclbhlgblifaaW.PrintLast Go.Proofs.YtimclbhlgblifaaW.PrintMore
def mk (kd lv mo nx : Int) (os : List S43) : Msg := { zeroM with code := 43, mei := 14, kind := kd, level := lv, more := mo, next := nx, objects := os }
theorem resp_run {kd lv mo nx : Int} {os : List S43} (h1 : 1 ≤ kd ∧ kd ≤ 4) (h2 : levB lv = true) (h3 : mo = 0 ∨ mo = 255) (h4 : mo ≠ 0 ∨ nx = 0) (h5 : kd ≠ 4 ∨ os.length = 1) (h6 : os.length < 256) (h7 : ∀ o ∈ os, o.f1.length < 256) :
    body 1 43 (lay 1 (mk kd lv mo nx os)) = (cu [], mk kd lv mo nx os) := by
  have e : lay 1 (mk kd lv mo nx os) = 14 :: kd :: lv :: mo :: nx :: ((os.length : Int) % 256) :: (objsB os ++ []) := by
    unfold lay mk
    rw [if_neg (show ¬ (14 : Int) = 13 by decide), if_neg (by decide), List.append_nil]
    rfl
  rw [body_eq, e]
  unfold bodyR
  rw [byte_run, need_run _ (by decide), if_neg (by decide)]
  unfold tailR
  rw [byte_run, need_run _ (by simp [h1]), if_pos rfl]
  unfold ansR
  rw [byte_run, need_run _ h2, byte_run, need_run _ (by simpa using h3), byte_run, need_run _ (by simpa using h4), byte_run, need_run _ ?_]
  · have e6 : ((os.length : Int) % 256).toNat = os.length := by omega
    have e5 := objsR_run os [] h7
    unfold Rd.bind Rd.ret
    dsimp only
    rw [e6, e5]
    rfl
  · show (kd != 4 || (os.length : Int) % 256 == 1) = true
    simp only [Bool.or_eq_true, bne_iff_ne, beq_iff_eq]
    omega
end Go.Proofs.Ytimclbhlgblifaa.Mei
end
section
namespace Go.Proofs.Ytimclbhlgblifaa.Laws
open Go.RowKit Go.Proofs.Ytimclbhlgblifaa.P Go.Proofs.Ytimclbhlgblifaa.E Go.Proofs.Ytimclbhlgblifaa.Cur Go.Proofs.Ytimclbhlgblifaa.Cu Go.Proofs.Ytimclbhlgblifaa.Same Go.Proofs.Ytimclbhlgblifaa.Code Go.Proofs.Ytimclbhlgblifaa.Com Go.Proofs.Ytimclbhlgblifaa.Mei Go.Proofs.YtimclbhlgblifaaW.PrintWords Go.Proofs.YtimclbhlgblifaaW.PrintLast Go.Proofs.YtimclbhlgblifaaW.PrintMore
theorem ex1 : parse 0 43 [14, 1, 0] = (mk 1 0 0 0 [], 0) := by
  have e2 : body 0 43 [14, 1, 0] = (cu [], mk 1 0 0 0 []) := by
    rw [body_eq]
    unfold bodyR
    rw [byte_run, need_run _ (by decide), if_neg (by decide)]
    unfold tailR
    rw [byte_run, need_run _ (by decide), if_neg (by decide), byte_run]
    rfl
  rw [parse_of (.inl rfl) rfl (by rw [e2]; rfl), e2]
theorem ex2 : parse 1 43 [14, 1, 1, 0, 0, 1, 0, 2, 65, 66] = (mk 1 1 0 0 [⟨0, [65, 66]⟩], 0) := by
  have e2 := resp_run (kd := 1) (lv := 1) (mo := 0) (nx := 0) (os := [⟨0, [65, 66]⟩]) (by decide) (by decide) (.inl rfl) (.inr rfl) (.inl (by decide)) (by decide) (by simp)
  have e3 : lay 1 (mk 1 1 0 0 [⟨0, [65, 66]⟩]) = [14, 1, 1, 0, 0, 1, 0, 2, 65, 66] := by
    unfold lay mk
    rw [if_neg (show ¬ (14 : Int) = 13 by decide), if_neg (by decide)]
    rfl
  rw [e3] at e2
  rw [parse_of (.inr rfl) rfl (by rw [e2]; rfl), e2]
theorem bytes_dec (l : List Int) (h : l.all (fun x => decide (0 ≤ x) && decide (x < 256)) = true) : isBytes l := fun x hx => by
  have := List.all_eq_true.1 h x hx
  simpa using this
set_option maxHeartbeats 16000000 in
set_option maxRecDepth 100000 in
theorem awake_any (w : World) :
    Calls Try.prog 11 #[] w fun e w' => e = .returned (.bool true) ∧ Below w.heap.size w w' := by
  have H1 := Aside0.mk (show ParseC 12 0 43 [14, 1, 0] (mk 1 0 0 0 [], 0) from by rw [← ex1]; exact parse_c (by decide) (bytes_dec _ (by decide)))
  have H2 := Aside0.mk (show ParseC 12 1 43 [14, 1, 1, 0, 0, 1, 0, 2, 65, 66] (mk 1 1 0 0 [⟨0, [65, 66]⟩], 0) from by rw [← ex2]; exact parse_c (by decide) (bytes_dec _ (by decide)))
  have H := Aside0.mk (Hd.start w)
  go_enter Try.func11, Try.ntmps11
  go_upto_region 2 with (first | ((with_reducible refine gate_dst (N := 6) rfl ?_); (try (refine gate_guard (by rfl) ?_; dsimp only)); refine ev_lit .u8 [14, 1, 0] 5 rfl (by first | (go_simp; done) | (go_simp; rfl)) (by simp) ?_; intro Aa ca wl ba he_ hr_ hz_ hb_; have Za := Aside0.mk hz_; have Ea := Aside0.mk he_; have n0_ := Aside0.mk ((H.out.on hb_).add (sta_C _ _ _ _) (hr_)); clear H; have H := n0_; clear n0_; clear hr_ hz_ hb_ he_) | (go_at_call 12; (with_reducible refine (ParseC.c (ParseC.ex H1.out Ea.out) H.out.f.2 Za.out).mono ?_); rintro en wm ⟨cm, rfl, hm_, hb_⟩; have n0_ := Aside0.mk ((H.out.on hb_).add (sta_msg _ _) (hm_)); clear H; have H := n0_; clear n0_; clear hb_ hm_) | ((with_reducible refine gate_dst (N := 1) rfl ?_); refine ev_var (y := .tmp 8) rfl rfl rfl rfl rfl H.out.f.2 rfl rfl ?_; intro gm wv hg_ h1_ hb_; have n0_ := Aside0.mk ((H.out.on hb_).add (sta_blk _ _) (h1_)); clear H; have H := n0_; clear n0_; clear h1_ hb_ hg_))
  go_upto_region 3 with (first | ((with_reducible refine gate_dst (N := 11) rfl ?_); (try (refine gate_guard (by rfl) ?_; dsimp only)); refine ev_lit .u8 [14, 1, 1, 0, 0, 1, 0, 2, 65, 66] 5 rfl (by first | (go_simp; done) | (go_simp; rfl)) (by simp) ?_; intro Ab cb wlb bb he_ hr_ hz_ hb_; have Zb := Aside0.mk hz_; have Eb := Aside0.mk he_; have n0_ := Aside0.mk ((H.out.on hb_).add (sta_C _ _ _ _) (hr_)); clear H; have H := n0_; clear n0_; clear hr_ hz_ hb_ he_) | (go_at_call 12; (with_reducible refine (ParseC.c (ParseC.ex H2.out Eb.out) H.out.f.2 Zb.out).mono ?_); rintro en wx ⟨cx, rfl, hm_, hb_⟩; have n0_ := Aside0.mk ((H.out.on hb_).add (sta_msg _ _) (hm_)); clear H; have H := n0_; clear n0_; clear hb_ hm_) | ((with_reducible refine gate_dst (N := 3) rfl ?_); refine ev_var (y := .tmp 13) rfl rfl rfl rfl rfl H.out.f.2 rfl rfl ?_; intro gx wxx hg_ h1_ hb_; have n0_ := Aside0.mk ((H.out.on hb_).add (sta_blk _ _) (h1_)); clear H; have H := n0_; clear n0_; clear h1_ hb_ hg_))
  obtain ⟨A12, c12, A13, c13, A14, c14, A15, c15, A21, c21, ⟨_, _, _, _, l21⟩, _, _, _, _, R21⟩ := IsMsg.lists H.out.f.1.2
  have k21 : wxx.cell? ⟨gx, 21, none⟩ = some (.slice A21 1 c21) := (blk_cell H.out.f.2 21).trans l21
  obtain ⟨ad, A1, c1, rfl, x0, x1, g1, q1⟩ := at_T43 R21.1 (0 : Int) (by decide) (by decide)
  have e0_ : rd_T43 (mk 1 1 0 0 [⟨0, [65, 66]⟩]).objects (0 : Int) = ⟨0, [65, 66]⟩ := rfl
  rw [e0_] at x0 x1 g1 q1
  rw [show ((0 : Int).toNat * 2) = 0 from rfl, Addr.add_zero'] at x0 x1
  replace x1 : wxx.cell? ⟨ad.block, ad.off + 1, none⟩ = some (.slice A1 2 c1) := x1
  have kmei : wxx.cell? ⟨gm, 16, none⟩ = some (.int .u8 14) := bx_mei H.out.f.1.1.1.2 H.out.f.1.1.1.1.2
  have kkind : wxx.cell? ⟨gm, 17, none⟩ = some (.int .u8 1) := bx_kind H.out.f.1.1.1.2 H.out.f.1.1.1.1.2
  have klev : wxx.cell? ⟨gx, 18, none⟩ = some (.int .u8 1) := bx_level H.out.f.2 H.out.f.1.2
  replace q1 : Kd.C (Kd.int .u8) wxx A1 2 [65, 66] := q1
  have hcv := Kd.C_string (P := Try.prog) (A := A1) (c := c1) Try.underlying22 Try.underlying5 Try.underlying9 q1
  have hs : ((strOfNums [65, 66]).toList == [65, 66]) = true := by rw [str_list]; rfl
  clear x0 g1 q1 l21 R21
  go_wp2
  go_ret
  exact ⟨by first | rfl | (simp; done) | decide, H.out.b⟩
theorem awake_c : AwakeC 11 := fun W => awake_any W
theorem u8_wf {n : Int} (h : (Lit.int .u8 n).wf = true) : 0 ≤ n ∧ n < 256 := by
  simp only [Lit.wf, IntKind.min, IntKind.max, IntKind.signed, IntKind.bits, Bool.and_eq_true, decide_eq_true_eq] at h
  simp at h
  omega
theorem u16_wf {n : Int} (h : (Lit.int .u16 n).wf = true) : 0 ≤ n ∧ n < 65536 := by
  simp only [Lit.wf, IntKind.min, IntKind.max, IntKind.signed, IntKind.bits, Bool.and_eq_true, decide_eq_true_eq] at h
  simp at h
  omega
end Go.Proofs.Ytimclbhlgblifaa.Laws
end
