/- What the laws of this chapter rest on, part 4: what the functions that they reach answer, each shown once. Conditions: what each theorem states. (Merged by a program of this session, wip/tools/merge.py, out of its own texts and of the words that the kit's print wrote for this seat, cut to those that are used.) -/
import Derived.Deep.Slices
import Derived.Deep.Fields
import Derived.ChangeArms
import Derived.Test.YtdjeekpgcjcffaaNC
set_option linter.unusedVariables false
set_option linter.unusedSimpArgs false
set_option maxHeartbeats 16000000
set_option maxRecDepth 100000
section
namespace Go.Proofs.Ytdjeekpgcjcffaa.Fil
open Go.RowKit Go.Proofs.Ytdjeekpgcjcffaa.P Go.Proofs.Ytdjeekpgcjcffaa.E Go.Proofs.Ytdjeekpgcjcffaa.Cur Go.Proofs.Ytdjeekpgcjcffaa.Cu Go.Proofs.Ytdjeekpgcjcffaa.Same Go.Proofs.Ytdjeekpgcjcffaa.Put Go.Proofs.Ytdjeekpgcjcffaa.Com Go.Proofs.Ytdjeekpgcjcffaa.Fil Go.Proofs.YtdjeekpgcjcffaaW.PrintWords Go.Proofs.YtdjeekpgcjcffaaW.PrintLast Go.Proofs.YtdjeekpgcjcffaaW.PrintMore
def mkF (code : Int) (l : List S43) : Msg := { zeroM with code := code, recs := l }
theorem mkF_is {code : Int} (hc : 0 ≤ code ∧ code < 256) {l : List S43} {A : Option Addr} {n : Nat} {W : World} (hn : l.length ≤ n) (hg : ∀ o ∈ l, goodRec o) (hr : Kd.C k43 W A l.length l) : IsMsg W ((codeC code).setIfInBounds 15 (.slice A l.length n)) (mkF code l) := set_recs (codeC_is hc W) hn hg hr
theorem mkF_good {code : Int} (hc : 0 ≤ code ∧ code < 256) {l : List S43} (hg : ∀ o ∈ l, goodRec o) : goodM (mkF code l) := by
  obtain ⟨h1, h2, h3, h4⟩ := good_code zero_good hc
  exact ⟨h1, h2, fun r hr => hg r hr, h4⟩
theorem C_rec1 (x : S43) {A : Option Addr} {n : Nat} {w : World} {g : Nat} (hb : w.heap[g]? = some (.cells (recC x.f0 x.f1 x.f2 (.slice A x.f3.length n)) 43 (0, 0))) (hz : x.f3.length ≤ n) (hr : Kd.C (Kd.int .u16) w A x.f3.length x.f3) : Kd.C k43 w (some ⟨g, 0, none⟩) 1 [x] := by
  have hC : Kd.C kRawR w (some ⟨g, 0, none⟩) 1 [⟨x.f0, x.f1, x.f2, A, x.f3.length, n⟩] := by
    refine ⟨rfl, by simp [maxLen], fun _ => ⟨_, rfl, fun j p hj => ?_⟩⟩
    obtain ⟨hj1, rfl⟩ := List.getElem?_eq_some_iff.1 hj
    have : j = 0 := by simpa using hj1
    subst this
    refine ⟨_, rfl, rfl, fun i u hu => ?_⟩
    have e : (⟨g, 0, none⟩ : Addr).add (0 * 4 + i) = ⟨g, i, none⟩ := by unfold Addr.add; split <;> simp_all
    show w.cell? ((⟨g, 0, none⟩ : Addr).add (0 * 4 + i)) = some u
    rw [e, blk_cell hb i]
    simpa using hu
  exact zipR_C hC (by
    refine ⟨rfl, fun j a b ha hb => ?_⟩
    obtain ⟨hj1, rfl⟩ := List.getElem?_eq_some_iff.1 ha
    have : j = 0 := by simpa using hj1
    subst this
    obtain rfl : b = x := by simpa using hb.symm
    exact ⟨rfl, rfl, rfl, rfl, hz, hr⟩)
theorem ev_rec1 {ops : Array Oper} {rest : List Oper} {o : Oper} {a : Act} {w : World} {Q : Exit → Act → World → Prop} (x : S43) (A : Option Addr) (n : Nat) (hgd : o.guard = none)
    (hrun : (execOp a.eval o).run Try.prog w = .ok (.value (.slice (some ⟨w.heap.size, 0, none⟩) 1 1)) (w.alloc (.cells (recC x.f0 x.f1 x.f2 (.slice A x.f3.length n)) 43 (0, 0)))) (hz : x.f3.length ≤ n) (hr : Kd.C (Kd.int .u16) w A x.f3.length x.f3)
    (h : ∀ A1 c1 w1, Kd.C k43 w1 A1 1 [x] → 1 ≤ c1 → Below w.heap.size w w1 → wpList Try.prog ops Q rest (a.put o.dst (.slice A1 1 c1)) w1) : wpList Try.prog ops Q (o :: rest) a w := by
  have hB := below_alloc (Below.refl w.heap.size w) (.cells (recC x.f0 x.f1 x.f2 (.slice A x.f3.length n)) 43 (0, 0))
  exact Kd.event_run hgd hrun (h _ _ _ (C_rec1 x (blk_new w _) hz (Kd.C_below hr hB)) (Nat.le_refl _) hB)
theorem sta_R (A : Option Addr) (n : Nat) (l : List S43) : Sta (fun W => Kd.C k43 W A n l) := fun _ _ hb h => Kd.C_below h hb
theorem bytes_dec (l : List Int) (h : l.all (fun x => decide (0 ≤ x) && decide (x < 256)) = true) : isBytes l := fun x hx => by
  have := List.all_eq_true.1 h x hx
  simpa using this
theorem mk_c {dir : Int} {m : Msg} (hl : (lay dir m).length ≤ 900000) (hr : m.recs.length ≤ 900000) {R : List Int × Int} (e : write dir m = R) : WriteC 16 dir m R := by
  rw [← e]
  exact write_c hl hr
theorem good1 {x : S43} (h : goodRec x) : ∀ o ∈ [x], goodRec o := fun o ho => by obtain rfl := List.mem_singleton.1 ho; exact h
theorem good_h {a b c : Int} (ha : 0 ≤ a ∧ a < 65536) (hb : 0 ≤ b ∧ b < 65536) (hc : 0 ≤ c ∧ c < 65536) : goodRec (⟨a, b, c, []⟩ : S43) := ⟨ha, hb, hc, fun x hx => by cases hx⟩
theorem good_w {ws : List Int} (h : ∀ x ∈ ws, 0 ≤ x ∧ x < 65536) : goodRec (⟨0, 0, 0, ws⟩ : S43) := ⟨zero16, zero16, zero16, h⟩
theorem heads_may {f r c : Int} : mayW 0 (mkF 20 [⟨f, r, c, []⟩]) ↔ f ≠ 0 ∧ r ≤ 9999 ∧ c ≠ 0 ∧ c ≤ 121 := by
  unfold mayW
  have e1 : kOf 0 (mkF 20 [⟨f, r, c, []⟩]).code = 0 := rfl
  have e2 : (flat (isTold 0 (mkF 20 [⟨f, r, c, []⟩]).code) (mkF 20 [⟨f, r, c, []⟩]).recs).length = 7 := rfl
  rw [e1, e2]
  constructor
  · rintro ⟨_, _, _, h1, h2, _⟩
    unfold okPart at h1
    rw [if_neg (by decide)] at h1
    have h2 := h2 rfl
    have h2 : 0 + (2 + 2 * c) ≤ 245 := h2
    obtain ⟨⟨a1, a2, a3⟩, _⟩ := h1
    exact ⟨a1, a2, a3, by omega⟩
  · rintro ⟨a1, a2, a3, a4⟩
    refine ⟨⟨.inl rfl, .inl rfl⟩, rfl, by decide, ?_, fun _ => ?_, trivial⟩
    · unfold okPart
      rw [if_neg (by decide)]
      exact ⟨⟨a1, a2, a3⟩, rfl⟩
    · show 0 + (2 + 2 * c) ≤ 245
      omega
theorem ex1 : parse 0 20 [7, 6, 0, 4, 0, 1, 0, 2] = (mkF 20 [⟨4, 1, 2, []⟩], 0) := by
  have h := write_parse (dir := 0) (m := mkF 20 [⟨4, 1, 2, []⟩]) (mkF_good (by decide) (good1 (good_h (by decide) (by decide) (by decide)))) (heads_may.2 (by decide))
  exact h
theorem ex2 : write 1 (mkF 20 [⟨0, 0, 0, [7]⟩]) = ([4, 3, 6, 0, 7], 0) := by
  refine write_yes (mkF_good (by decide) (good1 (good_w (fun x hx => by obtain rfl := List.mem_singleton.1 hx; decide)))) ⟨⟨.inr rfl, .inl rfl⟩, rfl, by decide, ?_, fun h => absurd h (by decide), trivial⟩
  show okPart 1 _
  unfold okPart
  rw [if_pos rfl]
  exact ⟨rfl, rfl, rfl, by decide, by decide⟩
end Go.Proofs.Ytdjeekpgcjcffaa.Fil
end
section
namespace Go.Proofs.Ytdjeekpgcjcffaa.Laws
open Go.RowKit Go.Proofs.Ytdjeekpgcjcffaa.P Go.Proofs.Ytdjeekpgcjcffaa.E Go.Proofs.Ytdjeekpgcjcffaa.Cur Go.Proofs.Ytdjeekpgcjcffaa.Cu Go.Proofs.Ytdjeekpgcjcffaa.Same Go.Proofs.Ytdjeekpgcjcffaa.Put Go.Proofs.Ytdjeekpgcjcffaa.Com Go.Proofs.Ytdjeekpgcjcffaa.Fil Go.Proofs.YtdjeekpgcjcffaaW.PrintWords Go.Proofs.YtdjeekpgcjcffaaW.PrintLast Go.Proofs.YtdjeekpgcjcffaaW.PrintMore
theorem awake_any (w : World) :
    Calls Try.prog 11 #[] w fun e w' => e = .returned (.bool true) ∧ Below w.heap.size w w' := by
  have H1 := Aside0.mk (show ParseC 12 0 20 [7, 6, 0, 4, 0, 1, 0, 2] (mkF 20 [⟨4, 1, 2, []⟩], 0) from by rw [← ex1]; exact parse_c (by decide) (bytes_dec _ (by decide)))
  have H2 := Aside0.mk (show WriteC 16 1 (mkF 20 [⟨0, 0, 0, [7]⟩]) ([4, 3, 6, 0, 7], 0) from mk_c (by decide) (by decide) ex2)
  have H := Aside0.mk (Hd.start w)
  go_enter Try.func11, Try.ntmps11
  go_upto_region 2 with (first | ((with_reducible refine gate_dst (N := 6) rfl ?_); (try (refine gate_guard (by rfl) ?_; dsimp only)); refine ev_lit .u8 [7, 6, 0, 4, 0, 1, 0, 2] 5 rfl (by first | (go_simp; done) | (go_simp; rfl)) (by simp) ?_; intro Aa ca wl ba he_ hr_ hz_ hb_; have Za := Aside0.mk hz_; have Ea := Aside0.mk he_; have n0_ := Aside0.mk ((H.out.on hb_).add (sta_C _ _ _ _) (hr_)); clear H; have H := n0_; clear n0_; clear hr_ hz_ hb_ he_) | (go_at_call 12; (with_reducible refine (ParseC.c (ParseC.ex H1.out Ea.out) H.out.f.2 Za.out).mono ?_); rintro en wm ⟨cm, rfl, hm_, hb_⟩; have n0_ := Aside0.mk ((H.out.on hb_).add (sta_msg _ _) (hm_)); clear H; have H := n0_; clear n0_; clear hb_ hm_) | ((with_reducible refine gate_dst (N := 1) rfl ?_); refine ev_var (y := .tmp 8) rfl rfl rfl rfl rfl H.out.f.2 rfl rfl ?_; intro gm wv hg_ h1_ hb_; have n0_ := Aside0.mk ((H.out.on hb_).add (sta_blk _ _) (h1_)); clear H; have H := n0_; clear n0_; clear h1_ hb_ hg_))
  obtain ⟨A12, c12, A13, c13, A14, c14, A15, c15, A21, c21, ⟨_, _, _, l15, _⟩, _, _, _, R15, _⟩ := IsMsg.lists H.out.f.1.2
  have k15 : wv.cell? ⟨gm, 15, none⟩ = some (.slice A15 1 c15) := (blk_cell H.out.f.2 15).trans l15
  go_upto_region 4 with (fail)
  clear k15
  go_upto_region 5 with (first | ((with_reducible refine gate_dst (N := 15) rfl ?_); (try (refine gate_guard (by rfl) ?_; dsimp only)); refine ev_lit .u16 [7] 24 rfl (by first | (go_simp; done) | (go_simp; rfl)) (by simp) ?_; intro Aw cw wlw bw he_ hr_ hz_ hb_; have Zw := Aside0.mk hz_; have Ew := Aside0.mk he_; have n0_ := Aside0.mk ((H.out.on hb_).add (sta_C _ _ _ _) (hr_)); clear H; have H := n0_; clear n0_; clear hr_ hz_ hb_ he_) | ((with_reducible refine gate_dst (N := 17) rfl ?_); (try (refine gate_guard (by rfl) ?_; dsimp only)); refine ev_rec1 (⟨0, 0, 0, bw⟩) Aw cw rfl (by first | (go_simp; done) | (go_simp; rfl)) (Zw.out) (H.out.f.2) ?_; intro Ar cr wr hr_ hz_ hb_; have Zr := Aside0.mk hz_; have n0_ := Aside0.mk ((H.out.on hb_).add (sta_R _ _ _) (hr_)); clear H; have H := n0_; clear n0_; clear hr_ hz_ hb_) | ((with_reducible refine gate_dst (N := 18) rfl ?_); (try (refine gate_guard (by rfl) ?_; dsimp only)); refine ev_build ((codeC 20).setIfInBounds 15 (.slice Ar 1 cr)) rfl (by first | (go_simp; done) | (go_simp; rfl)) ?_; intro cz hcx_; have mx_ := (show IsMsg _ ((codeC 20).setIfInBounds 15 (.slice Ar 1 cr)) (mkF 20 [⟨0, 0, 0, bw⟩]) from (mkF_is (code := 20) (l := [⟨0, 0, 0, bw⟩]) (by decide) (n := cr) Zr.out (good1 (good_w (by rw [Ew.out]; intro x hx; obtain rfl := List.mem_singleton.1 hx; decide))) (H.out.f.2))); rw [← hcx_] at mx_; have n0_ := Aside0.mk ((H.out).add (sta_msg _ _) (mx_)); clear H; have H := n0_; clear n0_; clear hcx_ mx_) | (go_at_call 16; (with_reducible refine (WriteC.n (show WriteC 16 1 (mkF 20 [⟨0, 0, 0, bw⟩]) ([4, 3, 6, 0, 7], 0) from by rw [Ew.out]; exact H2.out) (n := 5) rfl H.out.f.2).mono ?_); rintro en wb ⟨Ab, cb, rfl, hz_, hr_, hb_⟩; have n0_ := Aside0.mk ((H.out.on hb_).add (sta_C _ _ _ _) (hr_)); clear H; have H := n0_; clear n0_; have Zb := Aside0.mk hz_; clear hb_ hr_ hz_))
  obtain ⟨A12, c12, A13, c13, A14, c14, A15, c15, A21, c21, ⟨_, _, _, l15, _⟩, _, _, _, R15, _⟩ := IsMsg.lists H.out.f.1.1.1.1.1.2
  have k15 : wb.cell? ⟨gm, 15, none⟩ = some (.slice A15 1 c15) := (blk_cell H.out.f.1.1.1.1.2 15).trans l15
  obtain ⟨ad, A1, c1, rfl, x0, x1, x2, x3, g1, q1⟩ := at_T43 R15.1 (0 : Int) (by decide) (by decide)
  have e0_ : rd_T43 (mkF 20 [⟨4, 1, 2, []⟩]).recs (0 : Int) = ⟨4, 1, 2, []⟩ := rfl
  rw [e0_] at x0 x1 x2 x3 g1 q1
  rw [show ((0 : Int).toNat * 4) = 0 from rfl, Addr.add_zero'] at x0 x1 x2 x3
  have hcv := Kd.C_string (P := Try.prog) (A := Ab) (c := cb) Try.underlying22 Try.underlying5 Try.underlying9 H.out.f.2
  have hs : ((strOfNums [4, 3, 6, 0, 7]).toList == [4, 3, 6, 0, 7]) = true := by rw [str_list]; rfl
  clear g1 q1 l15 R15 x3
  go_wp2
  go_ret
  exact ⟨by first | rfl | (simp; done) | decide, H.out.b⟩
theorem awake_c : AwakeC 11 := fun W => awake_any W
theorem u16_wf {n : Int} (h : (Lit.int .u16 n).wf = true) : 0 ≤ n ∧ n < 65536 := by
  simp only [Lit.wf, IntKind.min, IntKind.max, IntKind.signed, IntKind.bits, Bool.and_eq_true, decide_eq_true_eq] at h
  simp at h
  omega
end Go.Proofs.Ytdjeekpgcjcffaa.Laws
end
section
namespace Go.Proofs.Ytdjeekpgcjcffaa.Open
open Go.RowKit Go.ChangeShapes Go.WideShapes Go.Deep Go.Proofs.YtdjeekpgcjcffaaW.PrintWords
def Opens {H : Type} (enc : TypeId × Value → H) (P : Program) (w : World) (base : Nat) (held : Bool) (t : TypeId) {α : Type} (d : Kd α) (good : α → Prop) : Prop :=
  ∀ fuel cs x, DataW.trod enc P w base (fun _ => true) held fuel t cs = some x → ∃ y, d.K w y cs ∧ good y
section
variable {H : Type} {enc : TypeId × Value → H} {P : Program} {w : World} {base : Nat} {held : Bool} {α : Type}
theorem opens_int {t : TypeId} {k : IntKind} (ht : P.underlying t = some (.int k)) : Opens enc P w base held t (Kd.int k) (fun n => (Lit.int k n).wf = true) := by
  intro fuel cs x h
  obtain ⟨n, rfl, _, hw⟩ := DataW.trod_int ht h
  exact ⟨n, rfl, hw⟩
theorem opens_bool {t : TypeId} (ht : P.underlying t = some .bool) : Opens enc P w base held t Kd.bool (fun _ => True) := by
  intro fuel cs x h
  obtain ⟨b, rfl, _⟩ := DataW.trod_bool ht h
  exact ⟨b, rfl, trivial⟩
theorem opens_slice {t e : TypeId} {d : Kd α} {g : α → Prop} (ht : P.underlying t = some (.slice e)) (hc : P.cellsOf e = d.sz) (h : Opens enc P w base held e d g) :
    Opens enc P w base held t (Kd.slice e d) (fun l => l.length ≤ maxLen ∧ ∀ x ∈ l, g x) := by
  intro fuel cs x hx
  rcases open_slice ht hx with ⟨rfl, _⟩ | ⟨a, len, cap, m, n, D, Pl, rfl, _, hl, hm, hmm, _, hel⟩
  · exact ⟨[], ⟨none, 0, rfl, Nat.le_refl _, Kd.C_nil d w⟩, Nat.zero_le _, fun x hx => by cases hx⟩
  · simp only [if_true] at hmm
    subst hmm
    have hone : ∀ i : Fin len, ∃ y, (∃ c, c.length = d.sz ∧ d.K w y c ∧ ∀ j u, c[j]? = some u → w.cell? (a.add (i.val * d.sz + j)) = some u) ∧ g y := by
      intro i
      obtain ⟨cs', h1, h2⟩ := hel i.val (Nat.lt_of_lt_of_le i.isLt hl)
      obtain ⟨y, hk, hg⟩ := h n cs' _ h2
      rw [hc] at h1
      obtain ⟨_, h4, h5⟩ := World.cells?_some h1
      refine ⟨y, ⟨cs', h4, hk, fun j u hu => ?_⟩, hg⟩
      have hj : j < d.sz := by rw [← h4]; exact (List.getElem?_eq_some_iff.1 hu).1
      have := h5 j hj
      rw [hu] at this
      rw [← Addr.add_add]
      exact this
    let ys := List.ofFn fun i => Classical.choose (hone i)
    have hy : ys.length = len := by simp [ys]
    refine ⟨ys, ⟨some a, m, by rw [hy], by rw [hy]; exact hl, ?_⟩, by rw [hy]; exact Nat.le_trans hl hm, ?_⟩
    · refine ⟨rfl, by rw [hy]; exact Nat.le_trans hl hm, fun _ => ⟨a, rfl, fun j p hp => ?_⟩⟩
      have hj : j < len := by rw [← hy]; exact (List.getElem?_eq_some_iff.1 hp).1
      have : p = Classical.choose (hone ⟨j, hj⟩) := by
        simp only [ys, List.getElem?_ofFn, hj, dite_true] at hp
        exact (Option.some.inj hp).symm
      subst this
      exact (Classical.choose_spec (hone ⟨j, hj⟩)).1
    · intro x hx
      simp only [ys, List.mem_ofFn] at hx
      obtain ⟨i, rfl⟩ := hx
      exact (Classical.choose_spec (hone i)).2
theorem opens_at {fs : Array Field} {cs : List Value} {xs : List (DataW H × List MemPlace)} {n : Nat} {d : Kd α} {g : α → Prop}
    (hf : ∀ (i : Nat) (f : Field), fs[i]? = some f → DataW.trod enc P w base (fun _ => true) held n f.type ((cs.drop f.offset).take (P.cellsOf f.type)) = xs[i]?) (hlen : xs.length = fs.size)
    (hone : oneCellFields P fs = true) (i : Nat) (f : Field) (hi : fs[i]? = some f) (c : Value) (hc : cs[i]? = some c) (H1 : Opens enc P w base held f.type d g) : ∃ y, d.K w y [c] ∧ g y := by
  obtain ⟨o1, k1⟩ := hone_of hone i f hi
  have h := hf i f hi
  have hlt : i < xs.length := by rw [hlen]; exact (Array.getElem?_eq_some_iff.1 hi).1
  rw [o1, k1, List.getElem?_eq_getElem hlt] at h
  have hci := (List.getElem?_eq_some_iff.1 hc).1
  have hs : (cs.drop i).take 1 = [c] := by
    rw [List.drop_eq_getElem_cons hci, List.take_succ_cons, List.take_zero, (List.getElem?_eq_some_iff.1 hc).2]
  rw [hs] at h
  exact H1 n [c] _ h
theorem open_slice_arg {t e : TypeId} {d : Kd α} {g : α → Prop} {a : Option Addr} {len cap : Nat} {x : DataW H} {p : List MemPlace} (h : DataW.Trod enc P w base (fun _ => true) held t (.slice a len cap) x p)
    (H1 : Opens enc P w base held t (Kd.slice e d) (fun l => l.length ≤ maxLen ∧ ∀ x ∈ l, g x)) : ∃ l, len = l.length ∧ d.C w a l.length l ∧ l.length ≤ cap ∧ l.length ≤ maxLen ∧ ∀ x ∈ l, g x := by
  obtain ⟨fuel, hf⟩ := h
  obtain ⟨l, ⟨A, c, he, hl, hC⟩, h1, h2⟩ := H1 fuel _ _ hf
  simp [Value.cells] at he
  obtain ⟨rfl, rfl, rfl⟩ := he
  exact ⟨l, rfl, hC, hl, h1, h2⟩
end
end Go.Proofs.Ytdjeekpgcjcffaa.Open
end
