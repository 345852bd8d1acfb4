/- What the laws of this chapter rest on, part 5: what the functions that they reach answer, each shown once. Conditions: what each theorem states. (Merged by a program of this session, wip/tools/merge.py, out of its own texts and of the words that the kit's print wrote for this seat, cut to those that are used.) -/
import Derived.Deep.CutRange
import Derived.Test.YtdjeekpgcjcffaaOD
set_option linter.unusedVariables false
set_option linter.unusedSimpArgs false
set_option maxHeartbeats 16000000
set_option maxRecDepth 100000
section
namespace Go.Proofs.Ytdjeekpgcjcffaa.Fil
open Go.RowKit Go.Proofs.Ytdjeekpgcjcffaa.P Go.Proofs.Ytdjeekpgcjcffaa.E Go.Proofs.Ytdjeekpgcjcffaa.Cur Go.Proofs.Ytdjeekpgcjcffaa.Cu Go.Proofs.Ytdjeekpgcjcffaa.Same Go.Proofs.Ytdjeekpgcjcffaa.Put Go.Proofs.Ytdjeekpgcjcffaa.Com Go.Proofs.YtdjeekpgcjcffaaW.PrintWords Go.Proofs.YtdjeekpgcjcffaaW.PrintLast Go.Proofs.YtdjeekpgcjcffaaW.PrintMore
theorem needS {c : Cu} {ok : Bool} {f : Int} (h : (c.need ok f).e = 0) (hf : f ≠ 0) : c.e = 0 ∧ ok = true ∧ c.need ok f = c := need_ok hf h
theorem writeR_ok {m : Msg} {l : List Int} {P : Msg × Int} (h : (writeR m l P).2 = 0) : P.2 = 0 ∧ P.1 = m ∧ writeR m l P = (l, 0) := by
  unfold writeR at h ⊢
  by_cases hc : P.2 = 0 ∧ sameB P.1 m = true
  · rw [if_pos hc]
    exact ⟨hc.1, (same_eq _ _).1 hc.2, rfl⟩
  · rw [if_neg hc] at h
    exact absurd h (by decide)
theorem writeR_no {m : Msg} {l : List Int} {P : Msg × Int} (h : (writeR m l P).2 ≠ 0) : writeR m l P = ([], 1) := by
  unfold writeR at h ⊢
  by_cases hc : P.2 = 0 ∧ sameB P.1 m = true
  · rw [if_pos hc] at h
    exact absurd rfl h
  · rw [if_neg hc]
theorem writeR_eq {m : Msg} {l : List Int} {P : Msg × Int} (h : P = (m, 0)) : writeR m l P = (l, 0) := by
  unfold writeR
  rw [h, if_pos ⟨rfl, same_refl m⟩]
theorem nd {c : Cu} {ok : Bool} {f : Int} (h : c.e ≠ 0) : (c.need ok f).e ≠ 0 := by rw [need_dead h]; exact h
theorem bd {c : Cu} (h : c.e ≠ 0) : c.byteS.e ≠ 0 := by rw [show c.byteS.e = c.e from bytesS_dead h 1]; exact h
theorem wd {c : Cu} (h : c.e ≠ 0) : c.wordS.e ≠ 0 := by rw [show c.wordS.e = c.e from wordsS_dead h 1]; exact h
theorem wsd {c : Cu} (h : c.e ≠ 0) (n : Int) : (c.wordsS n).e ≠ 0 := by rw [wordsS_dead h n]; exact h
theorem hd_dead {c : Cu} (h : c.e ≠ 0) : (head c).1.e ≠ 0 := nd (wd (nd (wd (nd (wd (nd (bd h)))))))
theorem wordR {t : List Int} (hb : isBytes t) (h : (cu t).wordS.e = 0) : ∃ t', t = putL [(cu t).wordV] ++ t' ∧ (cu t).wordS = cu t' ∧ isBytes t' ∧ 0 ≤ (cu t).wordV ∧ (cu t).wordV < 65536 := by
  obtain ⟨_, _, a, b, t', e1, e2, e3⟩ := word_ok h
  have e1 : t = a :: b :: t' := e1
  have ha := hb a (by rw [e1]; simp)
  have hb' := hb b (by rw [e1]; simp)
  refine ⟨t', ?_, e2, fun x hx => hb x (by rw [e1]; simp [hx]), by rw [e3]; omega, by rw [e3]; omega⟩
  rw [e3]
  simp only [putL, List.cons_append, List.nil_append]
  rw [show (a * 256 + b) / 256 % 256 = a by omega, show (a * 256 + b) % 256 = b by omega]
  exact e1
theorem wordW {v : Int} (hv : 0 ≤ v ∧ v < 65536) (t : List Int) : (cu (putL [v] ++ t)).wordV = v ∧ (cu (putL [v] ++ t)).wordS = cu t := by
  simp only [putL, List.cons_append, List.nil_append]
  exact ⟨by rw [wordV_cons]; omega, wordS_cons _ _ _⟩
theorem head_ok {t : List Int} (hb : isBytes t) (h : (head (cu t)).1.e = 0) : ∃ t', t = (6 :: putL [(head (cu t)).2.1, (head (cu t)).2.2.1, (head (cu t)).2.2.2]) ++ t' ∧ (head (cu t)).1 = cu t' ∧ isBytes t' ∧ (head (cu t)).2.1 ≠ 0 ∧ (head (cu t)).2.2.1 ≤ 9999 ∧ (head (cu t)).2.2.2 ≠ 0 := by
  have key : ∀ (c2 c4 c6 : Cu) (f0 f1 f2 : Int), c2 = (cu t).byteS.need ((cu t).byteV == 6) 9 → f0 = c2.wordV → c4 = c2.wordS.need (f0 != 0) 6 → f1 = c4.wordV → c6 = c4.wordS.need (decide (f1 ≤ 9999)) 7 → f2 = c6.wordV → (c6.wordS.need (f2 != 0) 5).e = 0 →
      ∃ t', t = (6 :: putL [f0, f1, f2]) ++ t' ∧ (c6.wordS.need (f2 != 0) 5) = cu t' ∧ isBytes t' ∧ f0 ≠ 0 ∧ f1 ≤ 9999 ∧ f2 ≠ 0 := by
    intro c2 c4 c6 f0 f1 f2 e2 g0 e4 g1 e6 g2 h
    obtain ⟨h6, k2, e8⟩ := needS h (by decide)
    have h6' : c6.e = 0 := by
      by_cases hz : c6.e = 0
      · exact hz
      · rw [show c6.wordS.e = c6.e from wordsS_dead hz 1] at h6; exact h6
    rw [e6] at h6'
    obtain ⟨h4, k1, e6'⟩ := needS h6' (by decide)
    have h4' : c4.e = 0 := by
      by_cases hz : c4.e = 0
      · exact hz
      · rw [show c4.wordS.e = c4.e from wordsS_dead hz 1] at h4; exact h4
    rw [e4] at h4'
    obtain ⟨h2, k0, e4'⟩ := needS h4' (by decide)
    have h2' : c2.e = 0 := by
      by_cases hz : c2.e = 0
      · exact hz
      · rw [show c2.wordS.e = c2.e from wordsS_dead hz 1] at h2; exact h2
    rw [e2] at h2'
    obtain ⟨h0, kk, e2'⟩ := needS h2' (by decide)
    obtain ⟨_, _, t1, e1, e1'⟩ := byte_ok h0
    have e1 : t = (cu t).byteV :: t1 := e1
    have hb1 : isBytes t1 := fun x hx => hb x (by rw [e1]; exact List.mem_cons_of_mem _ hx)
    have c2e : c2 = cu t1 := by rw [e2, e2', e1']
    subst c2e
    obtain ⟨t2, w0, s0, hb2, _⟩ := wordR hb1 h2
    have c4e : c4 = cu t2 := by rw [e4, e4', s0]
    subst c4e
    obtain ⟨t3, w1, s1, hb3, _⟩ := wordR hb2 h4
    have c6e : c6 = cu t3 := by rw [e6, e6', s1]
    subst c6e
    obtain ⟨t4, w2, s2, hb4, _⟩ := wordR hb3 h6
    refine ⟨t4, ?_, by rw [e8, s2], hb4, by simpa using k0, by simpa using k1, by simpa using k2⟩
    have k6 : (cu t).byteV = 6 := by simpa using kk
    rw [e1, k6, w0, w1, w2, g0, g1, g2]
    simp [putL]
  exact key _ _ _ _ _ _ rfl rfl rfl rfl rfl rfl h
theorem head_run {f0 f1 f2 : Int} (h0 : 0 ≤ f0 ∧ f0 < 65536) (h1 : 0 ≤ f1 ∧ f1 < 65536) (h2 : 0 ≤ f2 ∧ f2 < 65536) (k0 : f0 ≠ 0) (k1 : f1 ≤ 9999) (k2 : f2 ≠ 0) (t : List Int) : head (cu ((6 :: putL [f0, f1, f2]) ++ t)) = (cu t, f0, f1, f2) := by
  have e : (6 :: putL [f0, f1, f2]) ++ t = 6 :: (putL [f0] ++ (putL [f1] ++ (putL [f2] ++ t))) := by simp [putL]
  rw [e]
  simp only [head]
  rw [byteV_cons, byteS_cons, show ((6 : Int) == 6) = true from rfl, need_true, (wordW h0 _).1, (wordW h0 _).2, show (f0 != 0) = true by simpa using k0, need_true, (wordW h1 _).1, (wordW h1 _).2, decide_eq_true k1, need_true, (wordW h2 _).1, (wordW h2 _).2, show (f2 != 0) = true by simpa using k2, need_true]
def okPart (k : Nat) (x : S43) : Prop := if k = 1 then x.f0 = 0 ∧ x.f1 = 0 ∧ x.f2 = 0 ∧ 1 ≤ x.f3.length ∧ 2 * x.f3.length + 1 < 256 else (x.f0 ≠ 0 ∧ x.f1 ≤ 9999 ∧ x.f2 ≠ 0) ∧ (if k = 0 then x.f3 = [] else (x.f3.length : Int) = x.f2)
def okAll (k : Nat) : Int → List S43 → Prop
  | _, [] => True
  | s, x :: r => okPart k x ∧ (k = 0 → s + (2 + 2 * x.f2) ≤ 245) ∧ okAll k (if k = 0 then s + (2 + 2 * x.f2) else s) r
def rdK (k : Nat) : Rdp := if k = 0 then rd0 else if k = 1 then rd1 else rd2
def toldK (k : Nat) : Bool := decide (k = 1)
structure RdS (k : Nat) : Prop where
  dead : ∀ s c, c.e ≠ 0 → (rdK k s c).1.e ≠ 0
  ok : ∀ s t, isBytes t → (rdK k s (cu t)).1.e = 0 → ∃ t', t = partL (toldK k) (rdK k s (cu t)).2.1 ++ t' ∧ (rdK k s (cu t)).1 = cu t' ∧ isBytes t' ∧ okPart k (rdK k s (cu t)).2.1 ∧ (k = 0 → s + (2 + 2 * (rdK k s (cu t)).2.1.f2) ≤ 245) ∧ (rdK k s (cu t)).2.2 = (if k = 0 then s + (2 + 2 * (rdK k s (cu t)).2.1.f2) else s)
  run : ∀ s x t, goodRec x → okPart k x → (k = 0 → s + (2 + 2 * x.f2) ≤ 245) → rdK k s (cu (partL (toldK k) x ++ t)) = (cu t, x, if k = 0 then s + (2 + 2 * x.f2) else s)
theorem rds0 : RdS 0 := by
  refine ⟨fun s c h => nd (hd_dead h), fun s t hb h => ?_, fun s x t hg hk hs => ?_⟩
  · obtain ⟨⟨c1, g0, g1, g2⟩, eh⟩ : ∃ z, z = head (cu t) := ⟨_, rfl⟩
    have H := head_ok hb
    have er : rdK 0 s (cu t) = (c1.need (decide (s + (2 + 2 * g2) ≤ 245)) 5, ⟨g0, g1, g2, []⟩, s + (2 + 2 * g2)) := by
      show asked s (cu t) = _
      simp only [asked]
      rw [← eh]
    rw [← eh] at H
    rw [er] at h ⊢
    dsimp only at h H ⊢
    obtain ⟨h1, h2, h3⟩ := needS h (by decide)
    obtain ⟨t', e1, e2, e3, e4, e5, e6⟩ := H h1
    have h2 := of_decide_eq_true h2
    refine ⟨t', ?_, by rw [h3, e2], e3, ?_, fun _ => h2, rfl⟩
    · unfold partL toldK
      rw [if_neg (by decide)]
      simpa [putL] using e1
    · unfold okPart
      rw [if_neg (by decide)]
      exact ⟨⟨e4, e5, e6⟩, rfl⟩
  · unfold okPart at hk
    rw [if_neg (by decide), if_pos rfl] at hk
    obtain ⟨⟨k0, k1, k2⟩, k3⟩ := hk
    obtain ⟨f0, f1, f2, f3⟩ := x
    dsimp only at k0 k1 k2 k3
    subst k3
    have e : partL (toldK 0) ⟨f0, f1, f2, []⟩ ++ t = (6 :: putL [f0, f1, f2]) ++ t := by
      unfold partL toldK
      rw [if_neg (by decide)]
      simp [putL]
    rw [e]
    show asked s _ = _
    have hs := hs rfl
    simp only [asked]
    rw [head_run hg.1 hg.2.1 hg.2.2.1 k0 k1 k2]
    dsimp only at hs ⊢
    rw [decide_eq_true hs, need_true, if_pos trivial]
theorem rds2 : RdS 2 := by
  refine ⟨fun s c h => wsd (nd (hd_dead h)) _, fun s t hb h => ?_, fun s x t hg hk hs => ?_⟩
  · obtain ⟨⟨c1, g0, g1, g2⟩, eh⟩ : ∃ z, z = head (cu t) := ⟨_, rfl⟩
    have H := head_ok hb
    have er : rdK 2 s (cu t) = ((c1.need (decide (2 * g2 ≤ (c1.xs.length : Int))) 5).wordsS g2, ⟨g0, g1, g2, (c1.need (decide (2 * g2 ≤ (c1.xs.length : Int))) 5).wordsV g2⟩, s) := by
      show ((written (cu t)).1, (written (cu t)).2, s) = _
      simp only [written]
      rw [← eh]
    rw [← eh] at H
    rw [er] at h ⊢
    dsimp only at h H ⊢
    obtain ⟨h1, _, w1, w2, w3, w4⟩ := words_ok h
    obtain ⟨h1, h2, h3⟩ := needS h1 (by decide)
    obtain ⟨t', e1, e2, e3, e4, e5, e6⟩ := H h1
    rw [w3, w4, h3, e2]
    rw [h3, e2] at w2
    have w2 : 2 * g2 ≤ (t'.length : Int) := w2
    have hu : (t'.take (2 * g2.toNat)).length = 2 * g2.toNat := by rw [List.length_take]; omega
    have hub := isBytes_take e3 (2 * g2.toNat)
    show ∃ t'', t = partL (toldK 2) ⟨g0, g1, g2, Take.words (t'.take (2 * g2.toNat))⟩ ++ t'' ∧ cu (t'.drop (2 * g2.toNat)) = cu t'' ∧ isBytes t'' ∧ okPart 2 ⟨g0, g1, g2, Take.words (t'.take (2 * g2.toNat))⟩ ∧ _
    refine ⟨t'.drop (2 * g2.toNat), ?_, rfl, isBytes_drop e3 _, ?_, fun hk => absurd hk (by decide), rfl⟩
    · unfold partL toldK
      rw [if_neg (by decide), putL_words (by omega) hub, List.append_assoc, List.take_append_drop]
      exact e1
    · unfold okPart
      rw [if_neg (by decide), if_neg (by decide)]
      refine ⟨⟨e4, e5, e6⟩, ?_⟩
      show ((Take.words (t'.take (2 * g2.toNat))).length : Int) = g2
      rw [words_length (by omega) hub, hu]
      omega
  · unfold okPart at hk
    rw [if_neg (by decide), if_neg (by decide)] at hk
    obtain ⟨⟨k0, k1, k2⟩, k3⟩ := hk
    obtain ⟨f0, f1, f2, f3⟩ := x
    dsimp only at k0 k1 k2 k3
    have e : partL (toldK 2) ⟨f0, f1, f2, f3⟩ ++ t = (6 :: putL [f0, f1, f2]) ++ (putL f3 ++ t) := by
      unfold partL toldK
      rw [if_neg (by decide)]
      simp
    rw [e]
    show ((written _).1, (written _).2, s) = _
    simp only [written]
    rw [head_run hg.1 hg.2.1 hg.2.2.1 k0 k1 k2]
    dsimp only
    have hl := putL_length f3
    rw [show (decide (2 * f2 ≤ ((cu (putL f3 ++ t)).xs.length : Int))) = true from decide_eq_true (by show 2 * f2 ≤ ((putL f3 ++ t).length : Int); rw [List.length_append]; omega), need_true, wordsS_app _ _ (by omega), wordsV_app _ _ (by omega), words_putL (fun y hy => hg.2.2.2 y hy), if_neg (by decide)]
theorem rds1 : RdS 1 := by
  refine ⟨fun s c h => wsd (nd (bd (nd (bd h)))) _, fun s t hb h => ?_, fun s x t hg hk hs => ?_⟩
  · obtain ⟨k, ek⟩ : ∃ z, z = (cu t).byteV := ⟨_, rfl⟩
    obtain ⟨c1, e1⟩ : ∃ z, z = (cu t).byteS := ⟨_, rfl⟩
    obtain ⟨c2, e2⟩ : ∃ z, z = c1.need (decide (k % 2 = 1) && decide (3 ≤ k) && decide (k ≤ (c1.xs.length : Int))) 5 := ⟨_, rfl⟩
    obtain ⟨c4, e4⟩ : ∃ z, z = c2.byteS.need (c2.byteV == 6) 9 := ⟨_, rfl⟩
    have er : rdK 1 s (cu t) = (c4.wordsS (Int.tdiv (k - 1) 2), ⟨0, 0, 0, c4.wordsV (Int.tdiv (k - 1) 2)⟩, s) := by
      show ((told (cu t)).1, (told (cu t)).2, s) = _
      simp only [told]
      rw [← ek, ← e1, ← e2, ← e4]
    rw [er] at h ⊢
    dsimp only at h ⊢
    obtain ⟨h4, _, w1, w2, w3, w4⟩ := words_ok h
    rw [e4] at h4
    obtain ⟨h3, k6, n4⟩ := needS h4 (by decide)
    obtain ⟨h2, _, t2, b2, s2⟩ := byte_ok h3
    rw [e2] at h2
    obtain ⟨h1, kk, n2⟩ := needS h2 (by decide)
    rw [e1] at h1
    obtain ⟨_, _, t1, b1, s1⟩ := byte_ok h1
    have b1 : t = k :: t1 := by rw [ek]; exact b1
    have c1e : c1 = cu t1 := by rw [e1, s1]
    have c2e : c2 = cu t1 := by rw [e2, n2, c1e]
    have b2 : t1 = c2.byteV :: t2 := by have := b2; rw [c2e] at this ⊢; exact this
    have k6 : c2.byteV = 6 := by simpa using k6
    rw [k6] at b2
    have c4e : c4 = cu t2 := by rw [e4, n4, s2]
    simp only [Bool.and_eq_true, decide_eq_true_eq] at kk
    obtain ⟨⟨k1, k2⟩, k3⟩ := kk
    rw [tdiv_id (show 0 ≤ k - 1 by omega)] at w1 w2 w3 w4 ⊢
    rw [c4e] at w2 w3 w4 ⊢
    have w2 : 2 * ((k - 1) / 2) ≤ (t2.length : Int) := w2
    have hk := hb k (by rw [b1]; simp)
    have hb2 : isBytes t2 := fun y hy => hb y (by rw [b1, b2]; simp [hy])
    obtain ⟨q, eq⟩ : ∃ q : Nat, (k - 1) / 2 = (q : Int) := ⟨((k - 1) / 2).toNat, by omega⟩
    rw [eq] at w2 w3 w4 ⊢
    rw [w3, w4]
    have hu : (t2.take (2 * q)).length = 2 * q := by rw [List.length_take]; omega
    have hub := isBytes_take hb2 (2 * q)
    show ∃ t'', t = partL (toldK 1) ⟨0, 0, 0, Take.words (t2.take (2 * q))⟩ ++ t'' ∧ cu (t2.drop (2 * q)) = cu t'' ∧ isBytes t'' ∧ okPart 1 ⟨0, 0, 0, Take.words (t2.take (2 * q))⟩ ∧ _
    have wl := words_length (l := t2.take (2 * q)) (by omega) hub
    refine ⟨t2.drop (2 * q), ?_, rfl, isBytes_drop hb2 _, ?_, fun hk => absurd hk (by decide), rfl⟩
    · unfold partL toldK
      rw [if_pos (by decide), putL_words (by omega) hub, b1, b2]
      show k :: 6 :: t2 = (2 * ((Take.words (t2.take (2 * q))).length : Int) + 1) % 256 :: 6 :: (t2.take (2 * q) ++ t2.drop (2 * q))
      rw [List.take_append_drop, wl, hu, show (2 * ((2 * q / 2 : Nat) : Int) + 1) % 256 = k by omega]
    · unfold okPart
      rw [if_pos rfl]
      refine ⟨rfl, rfl, rfl, ?_, ?_⟩
      · show 1 ≤ (Take.words (t2.take (2 * q))).length
        omega
      · show 2 * (Take.words (t2.take (2 * q))).length + 1 < 256
        omega
  · unfold okPart at hk
    rw [if_pos rfl] at hk
    obtain ⟨f0, f1, f2, f3⟩ := x
    obtain ⟨k0, k1, k2, k3, k4⟩ := hk
    dsimp only at k0 k1 k2 k3 k4
    subst k0 k1 k2
    have hl := putL_length f3
    have e : partL (toldK 1) ⟨0, 0, 0, f3⟩ ++ t = (2 * (f3.length : Int) + 1) :: 6 :: (putL f3 ++ t) := by
      unfold partL toldK
      rw [if_pos (by decide)]
      show (2 * (f3.length : Int) + 1) % 256 :: 6 :: (putL f3 ++ t) = _
      rw [show (2 * (f3.length : Int) + 1) % 256 = 2 * (f3.length : Int) + 1 by omega]
    rw [e]
    show ((told _).1, (told _).2, s) = _
    simp only [told]
    rw [byteV_cons, byteS_cons]
    have ok : (decide ((2 * (f3.length : Int) + 1) % 2 = 1) && decide (3 ≤ 2 * (f3.length : Int) + 1) && decide (2 * (f3.length : Int) + 1 ≤ ((cu (6 :: (putL f3 ++ t))).xs.length : Int))) = true := by
      simp only [Bool.and_eq_true, decide_eq_true_eq]
      refine ⟨⟨by omega, by omega⟩, ?_⟩
      show 2 * (f3.length : Int) + 1 ≤ ((6 :: (putL f3 ++ t)).length : Int)
      simp only [List.length_cons, List.length_append]
      omega
    rw [ok, need_true, byteV_cons, byteS_cons, show ((6 : Int) == 6) = true from rfl, need_true, tdiv_id (show 0 ≤ 2 * (f3.length : Int) + 1 - 1 by omega), show (2 * (f3.length : Int) + 1 - 1) / 2 = (f3.length : Int) by omega, wordsS_app _ _ (by omega), wordsV_app _ _ (by omega), words_putL (fun y hy => hg.2.2.2 y hy), if_neg (by decide)]
theorem rds (k : Nat) (h : k = 0 ∨ k = 1 ∨ k = 2) : RdS k := by
  rcases h with rfl | rfl | rfl
  · exact rds0
  · exact rds1
  · exact rds2
theorem parts_nil (rd : Rdp) (N : Nat) (s : Int) : partsG rd N s (cu []) = (cu [], []) := by
  cases N with
  | zero => rfl
  | succ N => simp only [partsG]; rw [if_pos (.inl rfl)]
theorem parts_run {k : Nat} (R : RdS k) : ∀ (l : List S43) (N : Nat) (s : Int), (∀ r ∈ l, goodRec r) → okAll k s l → l.length ≤ N → partsG (rdK k) N s (cu (flat (toldK k) l)) = (cu [], l) := by
  intro l
  induction l with
  | nil => intro N s _ _ _; exact parts_nil _ _ _
  | cons x r ih =>
    intro N s hg hk hl
    obtain ⟨N, rfl⟩ : ∃ N', N = N' + 1 := ⟨N - 1, by simp at hl; omega⟩
    obtain ⟨k1, k2, k3⟩ := hk
    have hp := partL_len (toldK k) x
    have hne : ¬ ((cu (partL (toldK k) x ++ flat (toldK k) r)).xs = [] ∨ (cu (partL (toldK k) x ++ flat (toldK k) r)).e ≠ 0) := by
      rintro (h | h)
      · have h : partL (toldK k) x ++ flat (toldK k) r = [] := h
        have := congrArg List.length h
        rw [List.length_append, List.length_nil] at this
        omega
      · exact h rfl
    show partsG (rdK k) (N + 1) s (cu (partL (toldK k) x ++ flat (toldK k) r)) = _
    unfold partsG
    rw [if_neg hne, R.run s x _ (hg x List.mem_cons_self) k1 k2]
    dsimp only
    rw [ih N _ (fun y hy => hg y (List.mem_cons_of_mem _ hy)) k3 (by rw [List.length_cons] at hl; omega)]
theorem body_run {rd : Rdp} {may : Int → Bool} {t : List Int} (hm : may t.length = true) (hp : (partsG rd t.length 0 (cu t)).1.e = 0) (x : List Int) : body rd may ((t.length : Int) :: (t ++ x)) = (cu x, (partsG rd t.length 0 (cu t)).2) := by
  simp only [body]
  rw [byteV_cons, byteS_cons, hm, need_true, bytesV_app _ _ rfl, bytesS_app _ _ rfl, hp, show ((0 : Int) == 0) = true from rfl, need_true]
theorem body_none (rd : Rdp) (may : Int → Bool) : (body rd may []).1.fin.e = 2 := by
  have h : (cu []).byteS.e = 2 := bytesS_cut (n := 1) (.inl (by simp))
  simp only [body]
  have d1 : ((cu []).byteS.need (may (cu []).byteV) 5).e = 2 := by rw [need_dead (by rw [h]; decide), h]
  have d2 : (((cu []).byteS.need (may (cu []).byteV) 5).bytesS (cu []).byteV).e = 2 := by rw [bytesS_dead (by rw [d1]; decide), d1]
  rw [need_dead (by rw [d2]; decide), fin_dead (by rw [d2]; decide), d2]
def kOf (dir code : Int) : Nat := if code = 20 then (if dir = 0 then 0 else 1) else 2
def mayK (k : Nat) : Int → Bool := if k = 0 then may0 else if k = 1 then may1 else may2
theorem kOf_3 (dir code : Int) : kOf dir code = 0 ∨ kOf dir code = 1 ∨ kOf dir code = 2 := by
  unfold kOf
  split
  · split
    · exact .inl rfl
    · exact .inr (.inl rfl)
  · exact .inr (.inr rfl)
theorem kOf_told {dir code : Int} (hd : dir = 0 ∨ dir = 1) (hc : code = 20 ∨ code = 21) : toldK (kOf dir code) = isTold dir code := by
  rcases hd with rfl | rfl <;> rcases hc with rfl | rfl <;> rfl
theorem parse_eq {dir code : Int} (hd : dir = 0 ∨ dir = 1) (hc : code = 20 ∨ code = 21) (bs : List Int) : parse dir code bs = outc code (body (rdK (kOf dir code)) (mayK (kOf dir code)) bs) := by
  unfold parse
  rw [if_neg (by omega), if_neg (by omega)]
  rcases hd with rfl | rfl <;> rcases hc with rfl | rfl <;> rfl
theorem mayK_lt {k : Nat} {n : Nat} (h : mayK k n = true) : n < 256 := by
  unfold mayK may0 may1 may2 at h
  split at h
  · simp only [Bool.and_eq_true, decide_eq_true_eq] at h; omega
  · split at h <;> simp only [Bool.and_eq_true, decide_eq_true_eq] at h <;> omega
theorem flat_recs (t : Bool) : ∀ l : List S43, l.length ≤ (flat t l).length
  | [] => by simp [flat]
  | x :: r => by
    have h1 := flat_recs t r
    have h2 := (partL_len t x).1
    simp only [flat, List.length_append, List.length_cons]
    omega
def mayW (dir : Int) (m : Msg) : Prop := ((dir = 0 ∨ dir = 1) ∧ (m.code = 20 ∨ m.code = 21)) ∧ m = { zeroM with code := m.code, recs := m.recs } ∧ mayK (kOf dir m.code) (flat (isTold dir m.code) m.recs).length = true ∧ okAll (kOf dir m.code) 0 m.recs
theorem write_parse {dir : Int} {m : Msg} (hg : goodM m) (h : mayW dir m) : parse dir m.code (lay dir m) = (m, 0) := by
  obtain ⟨⟨hd, hc⟩, h1, h2, h3⟩ := h
  rw [parse_eq hd hc]
  have hl := mayK_lt h2
  have er := parts_run (rds _ (kOf_3 dir m.code)) m.recs (flat (isTold dir m.code) m.recs).length 0 hg.2.2.1 h3 (flat_recs _ _)
  rw [kOf_told hd hc] at er
  have eb := body_run (rd := rdK (kOf dir m.code)) (may := mayK (kOf dir m.code)) h2 (by rw [er]; rfl) []
  rw [List.append_nil, er] at eb
  unfold lay
  rw [show ((flat (isTold dir m.code) m.recs).length : Int) % 256 = ((flat (isTold dir m.code) m.recs).length : Int) by omega, eb]
  unfold outc
  rw [if_neg (by rw [fin_cu_nil]; simp [cu])]
  dsimp only
  exact Prod.ext h1.symm rfl
theorem write_yes {dir : Int} {m : Msg} (hg : goodM m) (h : mayW dir m) : write dir m = (lay dir m, 0) := by
  unfold write
  exact writeR_eq (write_parse hg h)
theorem few_small {m : Msg} (h : fewB m = true) (dir : Int) : (lay dir m).length ≤ 900000 ∧ m.recs.length ≤ 900000 ∧ (lay dir m).length ≤ 20351 := by
  unfold fewB at h
  simp only [Bool.and_eq_true, decide_eq_true_eq, List.all_eq_true] at h
  obtain ⟨⟨h1, h2, h3, h4, h5⟩, h6, h7⟩ := h
  have := flat_few (isTold dir m.code) m.recs h6
  rw [lay_len]
  omega
end Go.Proofs.Ytdjeekpgcjcffaa.Fil
end
section
namespace Go.Proofs.Ytdjeekpgcjcffaa.Fil
open Go.RowKit Go.Proofs.Ytdjeekpgcjcffaa.P Go.Proofs.Ytdjeekpgcjcffaa.E Go.Proofs.Ytdjeekpgcjcffaa.Cur Go.Proofs.Ytdjeekpgcjcffaa.Cu Go.Proofs.Ytdjeekpgcjcffaa.Same Go.Proofs.Ytdjeekpgcjcffaa.Put Go.Proofs.Ytdjeekpgcjcffaa.Com Go.Proofs.Ytdjeekpgcjcffaa.Fil Go.Proofs.YtdjeekpgcjcffaaW.PrintWords Go.Proofs.YtdjeekpgcjcffaaW.PrintLast Go.Proofs.YtdjeekpgcjcffaaW.PrintMore
def mkF (code : Int) (l : List S43) : Msg := { zeroM with code := code, recs := l }
theorem mkF_is {code : Int} (hc : 0 ≤ code ∧ code < 256) {l : List S43} {A : Option Addr} {n : Nat} {W : World} (hn : l.length ≤ n) (hg : ∀ o ∈ l, goodRec o) (hr : Kd.C k43 W A l.length l) : IsMsg W ((codeC code).setIfInBounds 15 (.slice A l.length n)) (mkF code l) := set_recs (codeC_is hc W) hn hg hr
theorem mkF_good {code : Int} (hc : 0 ≤ code ∧ code < 256) {l : List S43} (hg : ∀ o ∈ l, goodRec o) : goodM (mkF code l) := by
  obtain ⟨h1, h2, h3, h4⟩ := good_code zero_good hc
  exact ⟨h1, h2, fun r hr => hg r hr, h4⟩
theorem C_rec1 (x : S43) {A : Option Addr} {n : Nat} {w : World} {g : Nat} (hb : w.heap[g]? = some (.cells (recC x.f0 x.f1 x.f2 (.slice A x.f3.length n)) 43 (0, 0))) (hz : x.f3.length ≤ n) (hr : Kd.C (Kd.int .u16) w A x.f3.length x.f3) : Kd.C k43 w (some ⟨g, 0, none⟩) 1 [x] := by
  have hC : Kd.C kRawR w (some ⟨g, 0, none⟩) 1 [⟨x.f0, x.f1, x.f2, A, x.f3.length, n⟩] := by
    refine ⟨rfl, by simp [maxLen], fun _ => ⟨_, rfl, fun j p hj => ?_⟩⟩
    obtain ⟨hj1, rfl⟩ := List.getElem?_eq_some_iff.1 hj
    have : j = 0 := by simpa using hj1
    subst this
    refine ⟨_, rfl, rfl, fun i u hu => ?_⟩
    have e : (⟨g, 0, none⟩ : Addr).add (0 * 4 + i) = ⟨g, i, none⟩ := by unfold Addr.add; split <;> simp_all
    show w.cell? ((⟨g, 0, none⟩ : Addr).add (0 * 4 + i)) = some u
    rw [e, blk_cell hb i]
    simpa using hu
  exact zipR_C hC (by
    refine ⟨rfl, fun j a b ha hb => ?_⟩
    obtain ⟨hj1, rfl⟩ := List.getElem?_eq_some_iff.1 ha
    have : j = 0 := by simpa using hj1
    subst this
    obtain rfl : b = x := by simpa using hb.symm
    exact ⟨rfl, rfl, rfl, rfl, hz, hr⟩)
theorem ev_rec1 {ops : Array Oper} {rest : List Oper} {o : Oper} {a : Act} {w : World} {Q : Exit → Act → World → Prop} (x : S43) (A : Option Addr) (n : Nat) (hgd : o.guard = none)
    (hrun : (execOp a.eval o).run Try.prog w = .ok (.value (.slice (some ⟨w.heap.size, 0, none⟩) 1 1)) (w.alloc (.cells (recC x.f0 x.f1 x.f2 (.slice A x.f3.length n)) 43 (0, 0)))) (hz : x.f3.length ≤ n) (hr : Kd.C (Kd.int .u16) w A x.f3.length x.f3)
    (h : ∀ A1 c1 w1, Kd.C k43 w1 A1 1 [x] → 1 ≤ c1 → Below w.heap.size w w1 → wpList Try.prog ops Q rest (a.put o.dst (.slice A1 1 c1)) w1) : wpList Try.prog ops Q (o :: rest) a w := by
  have hB := below_alloc (Below.refl w.heap.size w) (.cells (recC x.f0 x.f1 x.f2 (.slice A x.f3.length n)) 43 (0, 0))
  exact Kd.event_run hgd hrun (h _ _ _ (C_rec1 x (blk_new w _) hz (Kd.C_below hr hB)) (Nat.le_refl _) hB)
theorem sta_R (A : Option Addr) (n : Nat) (l : List S43) : Sta (fun W => Kd.C k43 W A n l) := fun _ _ hb h => Kd.C_below h hb
theorem bytes_dec (l : List Int) (h : l.all (fun x => decide (0 ≤ x) && decide (x < 256)) = true) : isBytes l := fun x hx => by
  have := List.all_eq_true.1 h x hx
  simpa using this
theorem mk_c {dir : Int} {m : Msg} (hl : (lay dir m).length ≤ 900000) (hr : m.recs.length ≤ 900000) {R : List Int × Int} (e : write dir m = R) : WriteC 16 dir m R := by
  rw [← e]
  exact write_c hl hr
theorem good1 {x : S43} (h : goodRec x) : ∀ o ∈ [x], goodRec o := fun o ho => by obtain rfl := List.mem_singleton.1 ho; exact h
theorem good_h {a b c : Int} (ha : 0 ≤ a ∧ a < 65536) (hb : 0 ≤ b ∧ b < 65536) (hc : 0 ≤ c ∧ c < 65536) : goodRec (⟨a, b, c, []⟩ : S43) := ⟨ha, hb, hc, fun x hx => by cases hx⟩
theorem good_w {ws : List Int} (h : ∀ x ∈ ws, 0 ≤ x ∧ x < 65536) : goodRec (⟨0, 0, 0, ws⟩ : S43) := ⟨zero16, zero16, zero16, h⟩
theorem heads_may {f r c : Int} : mayW 0 (mkF 20 [⟨f, r, c, []⟩]) ↔ f ≠ 0 ∧ r ≤ 9999 ∧ c ≠ 0 ∧ c ≤ 121 := by
  unfold mayW
  have e1 : kOf 0 (mkF 20 [⟨f, r, c, []⟩]).code = 0 := rfl
  have e2 : (flat (isTold 0 (mkF 20 [⟨f, r, c, []⟩]).code) (mkF 20 [⟨f, r, c, []⟩]).recs).length = 7 := rfl
  rw [e1, e2]
  constructor
  · rintro ⟨_, _, _, h1, h2, _⟩
    unfold okPart at h1
    rw [if_neg (by decide)] at h1
    have h2 := h2 rfl
    have h2 : 0 + (2 + 2 * c) ≤ 245 := h2
    obtain ⟨⟨a1, a2, a3⟩, _⟩ := h1
    exact ⟨a1, a2, a3, by omega⟩
  · rintro ⟨a1, a2, a3, a4⟩
    refine ⟨⟨.inl rfl, .inl rfl⟩, rfl, by decide, ?_, fun _ => ?_, trivial⟩
    · unfold okPart
      rw [if_neg (by decide)]
      exact ⟨⟨a1, a2, a3⟩, rfl⟩
    · show 0 + (2 + 2 * c) ≤ 245
      omega
theorem ex1 : parse 0 20 [7, 6, 0, 4, 0, 1, 0, 2] = (mkF 20 [⟨4, 1, 2, []⟩], 0) := by
  have h := write_parse (dir := 0) (m := mkF 20 [⟨4, 1, 2, []⟩]) (mkF_good (by decide) (good1 (good_h (by decide) (by decide) (by decide)))) (heads_may.2 (by decide))
  exact h
theorem ex2 : write 1 (mkF 20 [⟨0, 0, 0, [7]⟩]) = ([4, 3, 6, 0, 7], 0) := by
  refine write_yes (mkF_good (by decide) (good1 (good_w (fun x hx => by obtain rfl := List.mem_singleton.1 hx; decide)))) ⟨⟨.inr rfl, .inl rfl⟩, rfl, by decide, ?_, fun h => absurd h (by decide), trivial⟩
  show okPart 1 _
  unfold okPart
  rw [if_pos rfl]
  exact ⟨rfl, rfl, rfl, by decide, by decide⟩
end Go.Proofs.Ytdjeekpgcjcffaa.Fil
end
section
namespace Go.Proofs.Ytdjeekpgcjcffaa.Laws
open Go.RowKit Go.Proofs.Ytdjeekpgcjcffaa.P Go.Proofs.Ytdjeekpgcjcffaa.E Go.Proofs.Ytdjeekpgcjcffaa.Cur Go.Proofs.Ytdjeekpgcjcffaa.Cu Go.Proofs.Ytdjeekpgcjcffaa.Same Go.Proofs.Ytdjeekpgcjcffaa.Put Go.Proofs.Ytdjeekpgcjcffaa.Com Go.Proofs.Ytdjeekpgcjcffaa.Fil Go.Proofs.YtdjeekpgcjcffaaW.PrintWords Go.Proofs.YtdjeekpgcjcffaaW.PrintLast Go.Proofs.YtdjeekpgcjcffaaW.PrintMore
theorem awake_any (w : World) :
    Calls Try.prog 11 #[] w fun e w' => e = .returned (.bool true) ∧ Below w.heap.size w w' := by
  have H1 := Aside0.mk (show ParseC 12 0 20 [7, 6, 0, 4, 0, 1, 0, 2] (mkF 20 [⟨4, 1, 2, []⟩], 0) from by rw [← ex1]; exact parse_c (by decide) (bytes_dec _ (by decide)))
  have H2 := Aside0.mk (show WriteC 16 1 (mkF 20 [⟨0, 0, 0, [7]⟩]) ([4, 3, 6, 0, 7], 0) from mk_c (by decide) (by decide) ex2)
  have H := Aside0.mk (Hd.start w)
  go_enter Try.func11, Try.ntmps11
  go_upto_region 2 with (first | ((with_reducible refine gate_dst (N := 6) rfl ?_); (try (refine gate_guard (by rfl) ?_; dsimp only)); refine ev_lit .u8 [7, 6, 0, 4, 0, 1, 0, 2] 5 rfl (by first | (go_simp; done) | (go_simp; rfl)) (by simp) ?_; intro Aa ca wl ba he_ hr_ hz_ hb_; have Za := Aside0.mk hz_; have Ea := Aside0.mk he_; have n0_ := Aside0.mk ((H.out.on hb_).add (sta_C _ _ _ _) (hr_)); clear H; have H := n0_; clear n0_; clear hr_ hz_ hb_ he_) | (go_at_call 12; (with_reducible refine (ParseC.c (ParseC.ex H1.out Ea.out) H.out.f.2 Za.out).mono ?_); rintro en wm ⟨cm, rfl, hm_, hb_⟩; have n0_ := Aside0.mk ((H.out.on hb_).add (sta_msg _ _) (hm_)); clear H; have H := n0_; clear n0_; clear hb_ hm_) | ((with_reducible refine gate_dst (N := 1) rfl ?_); refine ev_var (y := .tmp 8) rfl rfl rfl rfl rfl H.out.f.2 rfl rfl ?_; intro gm wv hg_ h1_ hb_; have n0_ := Aside0.mk ((H.out.on hb_).add (sta_blk _ _) (h1_)); clear H; have H := n0_; clear n0_; clear h1_ hb_ hg_))
  obtain ⟨A12, c12, A13, c13, A14, c14, A15, c15, A21, c21, ⟨_, _, _, l15, _⟩, _, _, _, R15, _⟩ := IsMsg.lists H.out.f.1.2
  have k15 : wv.cell? ⟨gm, 15, none⟩ = some (.slice A15 1 c15) := (blk_cell H.out.f.2 15).trans l15
  go_upto_region 4 with (fail)
  clear k15
  go_upto_region 5 with (first | ((with_reducible refine gate_dst (N := 15) rfl ?_); (try (refine gate_guard (by rfl) ?_; dsimp only)); refine ev_lit .u16 [7] 24 rfl (by first | (go_simp; done) | (go_simp; rfl)) (by simp) ?_; intro Aw cw wlw bw he_ hr_ hz_ hb_; have Zw := Aside0.mk hz_; have Ew := Aside0.mk he_; have n0_ := Aside0.mk ((H.out.on hb_).add (sta_C _ _ _ _) (hr_)); clear H; have H := n0_; clear n0_; clear hr_ hz_ hb_ he_) | ((with_reducible refine gate_dst (N := 17) rfl ?_); (try (refine gate_guard (by rfl) ?_; dsimp only)); refine ev_rec1 (⟨0, 0, 0, bw⟩) Aw cw rfl (by first | (go_simp; done) | (go_simp; rfl)) (Zw.out) (H.out.f.2) ?_; intro Ar cr wr hr_ hz_ hb_; have Zr := Aside0.mk hz_; have n0_ := Aside0.mk ((H.out.on hb_).add (sta_R _ _ _) (hr_)); clear H; have H := n0_; clear n0_; clear hr_ hz_ hb_) | ((with_reducible refine gate_dst (N := 18) rfl ?_); (try (refine gate_guard (by rfl) ?_; dsimp only)); refine ev_build ((codeC 20).setIfInBounds 15 (.slice Ar 1 cr)) rfl (by first | (go_simp; done) | (go_simp; rfl)) ?_; intro cz hcx_; have mx_ := (show IsMsg _ ((codeC 20).setIfInBounds 15 (.slice Ar 1 cr)) (mkF 20 [⟨0, 0, 0, bw⟩]) from (mkF_is (code := 20) (l := [⟨0, 0, 0, bw⟩]) (by decide) (n := cr) Zr.out (good1 (good_w (by rw [Ew.out]; intro x hx; obtain rfl := List.mem_singleton.1 hx; decide))) (H.out.f.2))); rw [← hcx_] at mx_; have n0_ := Aside0.mk ((H.out).add (sta_msg _ _) (mx_)); clear H; have H := n0_; clear n0_; clear hcx_ mx_) | (go_at_call 16; (with_reducible refine (WriteC.n (show WriteC 16 1 (mkF 20 [⟨0, 0, 0, bw⟩]) ([4, 3, 6, 0, 7], 0) from by rw [Ew.out]; exact H2.out) (n := 5) rfl H.out.f.2).mono ?_); rintro en wb ⟨Ab, cb, rfl, hz_, hr_, hb_⟩; have n0_ := Aside0.mk ((H.out.on hb_).add (sta_C _ _ _ _) (hr_)); clear H; have H := n0_; clear n0_; have Zb := Aside0.mk hz_; clear hb_ hr_ hz_))
  obtain ⟨A12, c12, A13, c13, A14, c14, A15, c15, A21, c21, ⟨_, _, _, l15, _⟩, _, _, _, R15, _⟩ := IsMsg.lists H.out.f.1.1.1.1.1.2
  have k15 : wb.cell? ⟨gm, 15, none⟩ = some (.slice A15 1 c15) := (blk_cell H.out.f.1.1.1.1.2 15).trans l15
  obtain ⟨ad, A1, c1, rfl, x0, x1, x2, x3, g1, q1⟩ := at_T43 R15.1 (0 : Int) (by decide) (by decide)
  have e0_ : rd_T43 (mkF 20 [⟨4, 1, 2, []⟩]).recs (0 : Int) = ⟨4, 1, 2, []⟩ := rfl
  rw [e0_] at x0 x1 x2 x3 g1 q1
  rw [show ((0 : Int).toNat * 4) = 0 from rfl, Addr.add_zero'] at x0 x1 x2 x3
  have hcv := Kd.C_string (P := Try.prog) (A := Ab) (c := cb) Try.underlying22 Try.underlying5 Try.underlying9 H.out.f.2
  have hs : ((strOfNums [4, 3, 6, 0, 7]).toList == [4, 3, 6, 0, 7]) = true := by rw [str_list]; rfl
  clear g1 q1 l15 R15 x3
  go_wp2
  go_ret
  exact ⟨by first | rfl | (simp; done) | decide, H.out.b⟩
theorem awake_c : AwakeC 11 := fun W => awake_any W
theorem u8_wf {n : Int} (h : (Lit.int .u8 n).wf = true) : 0 ≤ n ∧ n < 256 := by
  simp only [Lit.wf, IntKind.min, IntKind.max, IntKind.signed, IntKind.bits, Bool.and_eq_true, decide_eq_true_eq] at h
  simp at h
  omega
end Go.Proofs.Ytdjeekpgcjcffaa.Laws
end
section
namespace Go.Proofs.Ytdjeekpgcjcffaa.Fil
open Go.RowKit Go.Proofs.Ytdjeekpgcjcffaa.P Go.Proofs.Ytdjeekpgcjcffaa.E Go.Proofs.Ytdjeekpgcjcffaa.Cur Go.Proofs.Ytdjeekpgcjcffaa.RCur Go.Proofs.Ytdjeekpgcjcffaa.Cu Go.Proofs.Ytdjeekpgcjcffaa.Same Go.Proofs.YtdjeekpgcjcffaaW.PrintWords Go.Proofs.YtdjeekpgcjcffaaW.PrintLast Go.Proofs.YtdjeekpgcjcffaaW.PrintMore
structure HQ (w0 : World) (g hi b : Nat) (w : World) (c : Cu) (x : Array Value) : Prop where
  cur : QAt hi w g c
  up : Upd g w0 w
  gl : g < w0.heap.size ∧ w0.heap.size ≤ b
  h2 : w.heap[b]? = some (.cells x 43 (0, 0))
section
variable {w0 w w' : World} {g hi b : Nat} {c c' : Cu} {x : Array Value}
theorem QAt.below {hi g : Nat} {w w' : World} {c : Cu} (h : QAt hi w g c) (hb : Below w.heap.size w w') : QAt hi w' g c := h.on (S := fun _ => False) (Kept.of_below hb _) (fun _ h => h.elim) (fun h => h)
theorem HQ.start (h : QAt hi w0 g c) {w1 : World} (hb : Below w0.heap.size w0 w1) (e : b = w0.heap.size) (h1 : w1.heap[b]? = some (.cells x 43 (0, 0))) : HQ w0 g hi b w1 c x :=
  ⟨QAt.below h hb, Upd.of_below hb, ⟨QAt.lt h, by omega⟩, h1⟩
theorem HQ.stp (h : HQ w0 g hi b w c x) (p : QAt hi w' g c') (u : Upd g w w') : HQ w0 g hi b w' c' x :=
  ⟨p, h.up.trans u, h.gl, blk_kept h.h2 u.kept (by have := h.gl; omega)⟩
theorem HQ.good (h : HQ w0 g hi b w c x) : c.good := QAt.good h.cur
theorem HQ.byte (h : HQ w0 g hi b w c x) : Calls Try.prog 45 #[.pointer (some ⟨g, 0, none⟩)] w fun en w' => en = .returned (.int .u8 c.byteV) ∧ HQ w0 g hi b w' c.byteS x :=
  (q_byte h.cur).mono fun en w' ⟨e, p, u⟩ => ⟨e, h.stp p u⟩
theorem HQ.word (h : HQ w0 g hi b w c x) : Calls Try.prog 62 #[.pointer (some ⟨g, 0, none⟩)] w fun en w' => en = .returned (.int .u16 c.wordV) ∧ HQ w0 g hi b w' c.wordS x :=
  (q_word h.cur).mono fun en w' ⟨e, p, u⟩ => ⟨e, h.stp p u⟩
theorem HQ.need (h : HQ w0 g hi b w c x) (ok : Bool) (f : Int) : Calls Try.prog 46 #[.pointer (some ⟨g, 0, none⟩), .bool ok, .int .i64 f] w fun en w' => en = .returned (.tuple #[]) ∧ HQ w0 g hi b w' (c.need ok f) x :=
  (q_need h.cur ok f).mono fun en w' ⟨e, p, u⟩ => ⟨e, h.stp p u⟩
theorem HQ.left (h : HQ w0 g hi b w c x) : Calls Try.prog 44 #[.pointer (some ⟨g, 0, none⟩)] w fun en w' => en = .returned (.int .i64 c.xs.length) ∧ HQ w0 g hi b w' c x :=
  (q_left h.cur).mono fun en w' ⟨e, p, u⟩ => ⟨e, h.stp p u⟩
theorem HQ.words (h : HQ w0 g hi b w c x) (n : Int) : Calls Try.prog 47 #[.pointer (some ⟨g, 0, none⟩), .int .i64 n] w fun en w' => ∃ A' c', en = .returned (.slice A' (c.wordsV n).length c') ∧ (c.wordsV n).length ≤ c' ∧ Row16 w.heap.size w'.heap.size w' A' (c.wordsV n) ∧ HQ w0 g hi b w' (c.wordsS n) x :=
  (q_words h.cur n).mono fun en w' ⟨A', c', e, z, r, p, u⟩ => ⟨A', c', e, z, r, h.stp p u⟩
theorem HQ.put (h : HQ w0 g hi b w c x) (i : Nat) (v : Value) : HQ w0 g hi b (w.setCell ⟨b, i, none⟩ v) c (x.setIfInBounds i v) := by
  have hk : Kept w (w.setCell ⟨b, i, none⟩ v) (fun k => k = b) := (Kept.refl w (fun k => k = b)).setCell (p := ⟨b, i, none⟩) (.inl rfl) v
  have hh := QAt.hi h.cur
  exact ⟨h.cur.on hk (fun k e => by have := h.gl; omega) (fun e => by have := h.gl; omega), ⟨h.up.os, h.up.tape, h.up.output, h.up.kept.then_ hk fun k e => .inr (by have := h.gl; omega)⟩, h.gl, blk_put h.h2 i v rfl⟩
theorem HQ.put3 {a d e : Int} {v : Value} (h : HQ w0 g hi b w c (recC a d e v)) (z : Value) : HQ w0 g hi b (w.setCell ⟨b, 3, none⟩ z) c (recC a d e z) := h.put 3 _
theorem HQ.drew (h : HQ w0 g hi b w c x) : HQ w0 g hi b w.drew c x :=
  h.stp (h.cur.on (S := fun _ => False) (Kept.refl w _).drew (fun _ h => h.elim) (fun h => h)) ⟨rfl, rfl, rfl, Kept.refl _ _⟩
theorem HQ.row (h : HQ w0 g hi b w c x) {cx : Array Value} (h1 : w'.heap[b]? = some (.cells cx 43 (0, 0))) (u : Up1 b w w') : HQ w0 g hi b w' c cx := by
  have hh := QAt.hi h.cur
  exact ⟨h.cur.on u.kept (fun k e => by have := h.gl; omega) (fun e => by have := h.gl; omega), ⟨u.os.trans h.up.os, u.tape.trans h.up.tape, u.output.trans h.up.output, h.up.kept.then_ u.kept fun k e => .inr (by have := h.gl; omega)⟩, h.gl, h1⟩
theorem HQ.at (h : HQ w0 g hi b w c x) (i : Nat) : w.cell? ⟨b, i, none⟩ = x[i]? ∧ w.frozen? ⟨b, i, none⟩ = false := ⟨blk_cell h.h2 i, blk_frozen h.h2 i⟩
end
theorem short_need (c : Cu) : c.byteS.need (!c.byteS.s) 5 = c.byteS := by
  unfold Cu.byteS Cu.bytesS
  split
  · rename_i h
    obtain ⟨h1, _⟩ := (Cu.okB_iff c 1).1 h
    show (⟨_, c.s, c.e⟩ : Cu).need (!c.s) 5 = _
    rw [h1]
    exact need_true _ _
  · show c.fail.need (!true) 5 = c.fail
    refine need_dead ?_ _ _
    show fstE c.e 2 ≠ 0
    unfold fstE
    split
    · decide
    · assumption
theorem pos_ne {v : Int} (h : 0 ≤ v) : decide (0 < v) = (v != 0) := by
  by_cases h0 : v = 0
  · subst h0; rfl
  · rw [decide_eq_true (show 0 < v by omega)]; exact (bne_iff_ne.2 h0).symm
theorem rhead_any {hi g : Nat} {c0 : Cu} {w : World} (h : QAt hi w g c0) :
    Calls Try.prog 48 #[.pointer (some ⟨g, 0, none⟩)] w fun en w' => en = .returned (.agg #[.int .u16 (head c0).2.1, .int .u16 (head c0).2.2.1, .int .u16 (head c0).2.2.2, .slice none 0 0]) ∧ QAt hi w' g (head c0).1 ∧ Upd g w w' := by
  have HP := Aside0.mk h
  clear h
  go_enter Try.func48, Try.ntmps48
  go_upto_region 1 with (first | ((with_reducible refine gate_dst (N := 2) rfl ?_); refine ev_rec rfl rfl ?_; intro b2 w1 hg_ h1_ h2_; have H := Aside0.mk (HQ.start HP.out h2_ hg_ h1_); clear hg_ h1_ h2_))
  go_upto_region 2 with (first | (go_at_call 45; obtain ⟨l0, h0⟩ := Cu.byteV_bd (HQ.good H.out); (with_reducible refine (HQ.byte H.out).mono ?_); rintro en x1 ⟨rfl, hp_⟩; obtain ⟨c1, ec_⟩ : ∃ z, z = c0.byteS := ⟨_, rfl⟩; rw [← ec_] at hp_; have Ec1 := Aside0.mk ec_; clear ec_; have n0_ := Aside0.mk hp_; clear H hp_; have H := n0_; clear n0_))
  have ks := (QAt.cells H.out.cur).1
  go_upto_region 3 with (first | (go_at_call 46; (with_reducible refine (HQ.need H.out (!c1.s) 5).mono ?_); rintro en x2 ⟨rfl, hp_⟩; replace hp_ := (show HQ w g hi b2 _ c1 recZ from by rw [Ec1.out] at hp_ ⊢; rw [short_need] at hp_; exact hp_); clear ks; obtain ⟨c2, ec_⟩ : ∃ z, z = c1 := ⟨_, rfl⟩; rw [← ec_] at hp_; have Ec2 := Aside0.mk ec_; clear ec_; have n0_ := Aside0.mk hp_; clear H hp_; have H := n0_; clear n0_))
  go_upto_region 4 with (first | (go_at_call 46; (with_reducible refine (HQ.need H.out (c0.byteV == 6) 9).mono ?_); rintro en x3 ⟨rfl, hp_⟩; obtain ⟨c3, ec_⟩ : ∃ z, z = c2.need (c0.byteV == 6) 9 := ⟨_, rfl⟩; rw [← ec_] at hp_; have Ec3 := Aside0.mk ec_; clear ec_; have n0_ := Aside0.mk hp_; clear H hp_; have H := n0_; clear n0_))
  go_upto_region 5 with (first | (go_at_call 62; obtain ⟨l3, h3⟩ := Cu.wordV_bd (HQ.good H.out); (with_reducible refine (HQ.word H.out).mono ?_); rintro en x4 ⟨rfl, hp_⟩; obtain ⟨c4, ec_⟩ : ∃ z, z = c3.wordS := ⟨_, rfl⟩; rw [← ec_] at hp_; have Ec4 := Aside0.mk ec_; clear ec_; have n0_ := Aside0.mk hp_; clear H hp_; have H := n0_; clear n0_))
  go_upto_region 6 with (first | (go_at_call 46; (with_reducible refine (HQ.need H.out (decide (0 < c3.wordV)) 6).mono ?_); rintro en x5 ⟨rfl, hp_⟩; rw [pos_ne l3] at hp_; obtain ⟨c5, ec_⟩ : ∃ z, z = c4.need (c3.wordV != 0) 6 := ⟨_, rfl⟩; rw [← ec_] at hp_; have Ec5 := Aside0.mk ec_; clear ec_; have n0_ := Aside0.mk hp_; clear H hp_; have H := n0_; clear n0_))
  go_upto_region 7 with (first | (go_at_call 62; obtain ⟨l5, h5⟩ := Cu.wordV_bd (HQ.good H.out); (with_reducible refine (HQ.word H.out).mono ?_); rintro en x6 ⟨rfl, hp_⟩; obtain ⟨c6, ec_⟩ : ∃ z, z = c5.wordS := ⟨_, rfl⟩; rw [← ec_] at hp_; have Ec6 := Aside0.mk ec_; clear ec_; have n0_ := Aside0.mk hp_; clear H hp_; have H := n0_; clear n0_))
  go_upto_region 8 with (first | (go_at_call 46; (with_reducible refine (HQ.need H.out (decide (c5.wordV ≤ 9999)) 7).mono ?_); rintro en x7 ⟨rfl, hp_⟩; obtain ⟨c7, ec_⟩ : ∃ z, z = c6.need (decide (c5.wordV ≤ 9999)) 7 := ⟨_, rfl⟩; rw [← ec_] at hp_; have Ec7 := Aside0.mk ec_; clear ec_; have n0_ := Aside0.mk hp_; clear H hp_; have H := n0_; clear n0_))
  go_upto_region 9 with (first | (go_at_call 62; obtain ⟨l7, h7⟩ := Cu.wordV_bd (HQ.good H.out); (with_reducible refine (HQ.word H.out).mono ?_); rintro en x8 ⟨rfl, hp_⟩; obtain ⟨c8, ec_⟩ : ∃ z, z = c7.wordS := ⟨_, rfl⟩; rw [← ec_] at hp_; have Ec8 := Aside0.mk ec_; clear ec_; have n0_ := Aside0.mk hp_; clear H hp_; have H := n0_; clear n0_))
  go_upto_region 10 with (first | (go_at_call 46; (with_reducible refine (HQ.need H.out (decide (0 < c7.wordV)) 5).mono ?_); rintro en x10 ⟨rfl, hp_⟩; rw [pos_ne l7] at hp_; obtain ⟨c9, ec_⟩ : ∃ z, z = c8.need (c7.wordV != 0) 5 := ⟨_, rfl⟩; rw [← ec_] at hp_; have Ec9 := Aside0.mk ec_; clear ec_; have n0_ := Aside0.mk hp_; clear H hp_; have H := n0_; clear n0_))
  have HE : Aside0 (head c0 = (c9, c3.wordV, c5.wordV, c7.wordV)) := ⟨by simp only [head]; rw [← Ec1.out, ← Ec2.out, ← Ec3.out, ← Ec4.out, ← Ec5.out, ← Ec6.out, ← Ec7.out, ← Ec8.out, ← Ec9.out]⟩
  go_wp2_with (first | ((with_reducible refine gate_op (u := .store 43 (.tmp 2) (.tmp 41)) rfl ?_); refine Same.wpList_store_row 43 (.tmp 2) (.tmp 41) rfl rfl rfl rfl H.out.h2 rfl (rec_info rfl) recs_one ?_; intro x9 h3_ h4_; have m0_ := Aside0.mk (HQ.row H.out h3_ h4_); clear H h3_ h4_; have H := m0_; clear m0_))
  refine bodyPost_ret (results_cell_row rfl _ _ b2 43 _ (0, 0) _ rfl H.out.h2 Try.underlying43 rfl (rec_info rfl)) rfl ⟨?_, ?_, ?_⟩
  · rw [HE.out]
  · rw [HE.out]; exact H.out.cur
  · exact H.out.up
theorem rhead_let {hi g : Nat} {c0 c1 : Cu} {f0 f1 f2 : Int} {w : World} (e : (c1, f0, f1, f2) = head c0) (h : QAt hi w g c0) :
    Calls Try.prog 48 #[.pointer (some ⟨g, 0, none⟩)] w fun en w' => en = .returned (.agg (recC f0 f1 f2 (.slice none 0 0))) ∧ QAt hi w' g c1 ∧ Upd g w w' := by
  have := rhead_any h
  rw [← e] at this
  exact this
structure LQ (w0 : World) (B g : Nat) (W : World) (c : Cu) (os : List S43) (raws : List RawR) (v : Value) : Prop where
  b : Below w0.heap.size w0 W
  cur : QAt w0.heap.size W g c
  row : Kd.R kRawR 43 W B (fun k => B ≤ k) v raws
  zip : Zip (fun r o => goodR o ∧ ∀ W', Kept W W' (fun k => k < B ∨ v.ownBlock = some k) → FitsR W' r o) raws os
  g : w0.heap.size ≤ g ∧ g < B ∧ B ≤ W.heap.size
  bd : os.length + c.xs.length ≤ 1000000
section
variable {w0 W W' : World} {B g : Nat} {c c' : Cu} {os : List S43} {raws : List RawR} {v : Value}
theorem LQ.own (h : LQ w0 B g W c os raws v) (k : Nat) (hk : v.ownBlock = some k) : B ≤ k ∧ k < W.heap.size := by
  have := (Kd.R_bound h.row).1 k hk
  exact ⟨this.1, this.2.2.1⟩
theorem LQ.move (h : LQ w0 B g W c os raws v) (u : Upd g W W') (p : QAt w0.heap.size W' g c') (hb : os.length + c'.xs.length ≤ 1000000) : LQ w0 B g W' c' os raws v := by
  have hg := h.g
  have kk : Kept W W' (fun k => k < B ∨ v.ownBlock = some k) := u.kept.mono fun j hj => .inl (by omega)
  refine ⟨h.b.trans (u.below hg.1 h.b.size), p, ?_, h.zip.imp fun _ _ z => ⟨z.1, fun W2 hk => z.2 W2 (kk.then_ hk fun j hj => .inl hj)⟩, ⟨hg.1, hg.2.1, Nat.le_trans hg.2.2 u.kept.1⟩, hb⟩
  exact Kd.R_mono (Kd.R_move (Kd.R_bound h.row) fun j hj => u.kept.2 j hj.2.2.1 fun e => by have := hj.1; omega) fun j hj => hj.1
theorem LQ.push (h : LQ w0 B g W c os raws v) {r : RawR} {o : S43} (hg : goodR o) (hz : ∀ W', Kept W W' (fun k => k < B ∨ v.ownBlock = some k) → FitsR W' r o) (hb : os.length + 1 + c.xs.length ≤ 1000000) {v1 : Value} {w1 : World} (R1 : Kd.R kRawR 43 w1 B (fun k => B ≤ k) v1 (raws ++ [r])) (B1 : Below w0.heap.size w0 w1) (G : W.grownBy w1 v.ownBlock) (hv : v1.ownBlock = v.ownBlock ∨ ∃ b, v1.ownBlock = some b ∧ W.heap.size ≤ b) :
    LQ w0 B g w1 c (os ++ [o]) (raws ++ [r]) v1 := by
  have hgg := h.g
  have k1 : Kept W w1 (fun k => v.ownBlock = some k) := (Kept.refl W _).of_grown G (fun k hk => .inl hk)
  have kk : Kept W w1 (fun k => k < B ∨ v.ownBlock = some k) := k1.mono fun j hj => .inr hj
  have turn : ∀ W', Kept w1 W' (fun k => k < B ∨ v1.ownBlock = some k) → Kept W W' (fun k => k < B ∨ v.ownBlock = some k) := fun W' hk => kk.then_ hk (fun j hj => by
    rcases hj with hj | hj
    · exact .inl (.inl hj)
    · rcases hv with e | ⟨b, e, hb⟩
      · exact .inl (.inr (e ▸ hj))
      · rw [e] at hj
        have := Option.some.inj hj
        exact .inr (by omega))
  refine ⟨B1, h.cur.on k1 (fun k e => by have := (h.own k e).1; omega) (fun e => by have := (h.own _ e).1; omega), R1, (h.zip.imp fun _ _ z => ⟨z.1, fun W' hk => z.2 W' (turn W' hk)⟩).snoc ⟨hg, fun W' hk => hz W' (turn W' hk)⟩, ⟨hgg.1, hgg.2.1, Nat.le_trans hgg.2.2 k1.1⟩, by rw [List.length_append]; simpa using hb⟩
theorem LQ.few (h : LQ w0 B g W c os raws v) : raws.length ≤ 1000000 := by
  have := h.bd
  have := h.zip.1
  omega
end
theorem fits_q {w0 Wb Wr x3 x9 : World} {B g b : Nat} {c : Cu} {os : List S43} {raws : List RawR} {v : Value} {r : RawR} {x : S43} (e0 : r.f0 = x.f0) (e1 : r.f1 = x.f1) (e2 : r.f2 = x.f2) (e3 : r.n = x.f3.length) (hz : x.f3.length ≤ r.c) (h : LQ w0 B g Wb c os raws v) (hs : Wb.heap.size ≤ Wr.heap.size) (hr : Row16 Wr.heap.size x3.heap.size x3 r.A x.f3) (hb : Kept x3 x9 (fun k => k = b)) (hlt : b < Wr.heap.size) : ∀ W', Kept x9 W' (fun k => k < B ∨ v.ownBlock = some k) → FitsR W' r x := fun W' hk =>
  ⟨e0, e1, e2, e3, hz, hr W' ((hb.mono fun j hj => .inl (by omega)).then_ hk fun j hj => .inl (by
    have := h.g
    rcases hj with hj | hj
    · exact .inl (by omega)
    · have := (h.own j hj).2
      exact .inl (by omega)))⟩
theorem fits_nil {W' : World} {r : RawR} {x : S43} (e0 : r.f0 = x.f0) (e1 : r.f1 = x.f1) (e2 : r.f2 = x.f2) (e3 : r.n = 0) (eA : r.A = none) (ex : x.f3 = []) : FitsR W' r x := by
  unfold FitsR
  rw [ex, eA]
  exact ⟨e0, e1, e2, e3, Nat.zero_le _, Kd.C_nil _ _⟩
def leftQ (W : World) (g : Nat) : Nat := match W.heap[g]? with
  | some (.cells cs _ _) => (match cs[0]?, cs[1]? with | some (Value.slice _ n _), some (Value.int _ k) => n - k.toNat | _, _ => 0)
  | _ => 0
theorem leftQ_at {hi : Nat} {W : World} {g : Nat} {c : Cu} (h : QAt hi W g c) : leftQ W g = c.xs.length := by
  obtain ⟨all, n, ⟨_, _, _, A, c', h1, _⟩, h2, _⟩ := h
  unfold leftQ
  rw [h1, h2, List.length_drop]
  simp
end Go.Proofs.Ytdjeekpgcjcffaa.Fil
end
section
namespace Go.Proofs.Ytdjeekpgcjcffaa.QS
open Go.RowKit Go.Proofs.Ytdjeekpgcjcffaa.P Go.Proofs.Ytdjeekpgcjcffaa.E Go.Proofs.Ytdjeekpgcjcffaa.Cur Go.Proofs.Ytdjeekpgcjcffaa.RCur Go.Proofs.Ytdjeekpgcjcffaa.Cu Go.Proofs.Ytdjeekpgcjcffaa.Same Go.Proofs.YtdjeekpgcjcffaaW.PrintWords Go.Proofs.YtdjeekpgcjcffaaW.PrintLast Go.Proofs.YtdjeekpgcjcffaaW.PrintMore
structure St (w0 : World) (gr g gm : Nat) (w : World) (c : Cu) (m : Msg) : Prop where
  b : Below w0.heap.size w0 w
  cur : QAt w0.heap.size w g c
  cx : ∃ cx, w.heap[gm]? = some (.cells cx 30 (0, 0)) ∧ ∀ W', Kept w W' (fun k => k = g ∨ k = gm ∨ k = gr) → IsMsg W' cx m
  res : w.heap[gr]? = some (.cells zeroC 30 (0, 0))
  h1 : w0.heap.size ≤ g ∧ w0.heap.size ≤ gm ∧ w0.heap.size ≤ gr
  h2 : gm ≠ g ∧ gr ≠ g ∧ gr ≠ gm
  nl : ∃ cx, w.heap[gm]? = some (.cells cx 30 (0, 0)) ∧ NilL cx
section
variable {w0 w w' : World} {gr g gm : Nat} {c c' : Cu} {m m' : Msg}
end
theorem ev_cur {ops : Array Oper} {rest : List Oper} {o : Oper} {a : Act} {w : World} {Q : Exit → Act → World → Prop} {A : Option Addr} {n c : Nat} {y : Operand} (ho : o.op = .box 78 y) (hgd : o.guard = none) (hy : a.eval y = .agg #[.slice A n c, .int .i64 0, .bool false, .int .i64 0])
    (h : ∀ g w1, g = w.heap.size → w1 = w.alloc (.cells #[.slice A n c, .int .i64 0, .bool false, .int .i64 0] 78) → wpList Try.prog ops Q rest (a.put o.dst (.pointer (some ⟨g, 0, none⟩))) w1) : wpList Try.prog ops Q (o :: rest) a w := by
  refine Kd.event_run hgd ?_ (h _ _ rfl rfl)
  unfold execOp
  rw [ho]
  simp only [hy]
  rfl
structure Nw (w0 : World) (gr g : Nat) (w : World) (c : Cu) : Prop where
  b : Below w0.heap.size w0 w
  cur : QAt w0.heap.size w g c
  res : w.heap[gr]? = some (.cells zeroC 30 (0, 0))
  h1 : w0.heap.size ≤ g ∧ w0.heap.size ≤ gr
  h2 : gr ≠ g
end Go.Proofs.Ytdjeekpgcjcffaa.QS
end
section
namespace Go.Proofs.Ytdjeekpgcjcffaa.Fil
open Go.RowKit Go.Proofs.Ytdjeekpgcjcffaa.P Go.Proofs.Ytdjeekpgcjcffaa.E Go.Proofs.Ytdjeekpgcjcffaa.Cur Go.Proofs.Ytdjeekpgcjcffaa.Cu Go.Proofs.Ytdjeekpgcjcffaa.Same Go.Proofs.YtdjeekpgcjcffaaW.PrintWords Go.Proofs.YtdjeekpgcjcffaaW.PrintLast Go.Proofs.YtdjeekpgcjcffaaW.PrintMore
def PartsQ (rd : Rdp) (l : List Int) (w0 : World) (en : Ending) (w' : World) : Prop :=
  ∃ A' m' n', en = .returned (.tuple #[.slice A' m' n', .int .i64 (within (partsG rd l.length 0 (cu l)).1.e)]) ∧ Below w0.heap.size w0 w' ∧ ((partsG rd l.length 0 (cu l)).1.e = 0 → m' = (partsG rd l.length 0 (cu l)).2.length ∧ m' ≤ n' ∧ (∀ W', Kept w' W' (fun k => k < w0.heap.size) → Kd.C k43 W' A' m' (partsG rd l.length 0 (cu l)).2) ∧ ∀ o ∈ (partsG rd l.length 0 (cu l)).2, goodR o)
theorem PartsQ.bad {rd : Rdp} {l : List Int} {w0 w' : World} {A' : Option Addr} {m' n' : Nat} {e : Int} (he : e = within (partsG rd l.length 0 (cu l)).1.e) (hb : Below w0.heap.size w0 w') (h0 : (partsG rd l.length 0 (cu l)).1.e ≠ 0) : PartsQ rd l w0 (.returned (.tuple #[.slice A' m' n', .int .i64 e])) w' :=
  ⟨A', m', n', by rw [he], hb, fun h => absurd h h0⟩
theorem LQ.close2 {w0 W : World} {B g : Nat} {c : Cu} {os : List S43} {raws : List RawR} {v : Value} (h : LQ w0 B g W c os raws v) : ∃ A n, v = .slice A os.length n ∧ os.length ≤ n ∧ ∀ W', Kept W W' (fun k => k < B) → Kd.C k43 W' A os.length os := by
  obtain ⟨A, n, rfl, hn, hC⟩ := Kd.R_reads h.row
  have hl := h.zip.1
  refine ⟨A, n, by rw [hl], by omega, fun W' hk => ?_⟩
  have R2 : Kd.R kRawR 43 W' B (fun k => B ≤ k) (.slice A raws.length n) raws := Kd.R_mono (Kd.R_move (Kd.R_bound h.row) fun j hj => hk.2 j hj.2.2.1 fun e => by have := hj.1; omega) fun j hj => hj.1
  obtain ⟨A2, n2, e2, _, hC2⟩ := Kd.R_reads R2
  obtain ⟨rfl, _, _⟩ := Value.slice.inj e2
  rw [hl] at hC2
  exact zipR_C hC2 (h.zip.imp fun _ _ z => z.2 W' (hk.mono fun j hj => .inl hj))
theorem LQ.done {rd : Rdp} {l : List Int} {w0 W : World} {B g : Nat} {c : Cu} {os : List S43} {raws : List RawR} {v : Value} (h : LQ w0 B g W c os raws v) (hp : c = (partsG rd l.length 0 (cu l)).1 ∧ (c.e = 0 → os = (partsG rd l.length 0 (cu l)).2)) (h2 : c.e ≠ 2) : PartsQ rd l w0 (.returned (.tuple #[v, .int .i64 c.e])) W := by
  obtain ⟨A', n', rfl, hn, hC⟩ := h.close2
  have hg := h.g
  refine ⟨A', os.length, n', ?_, h.b, fun he => ?_⟩
  · rw [← hp.1]; unfold within; rw [if_neg h2]
  · rw [← hp.1] at he
    rw [← hp.2 he]
    exact ⟨rfl, hn, fun W' hk => hC W' (hk.mono fun j hj => by omega), fun o ho => (h.zip.mem o ho).elim fun _ z => z.1⟩
theorem LQ.first {w0 w2 : World} {g : Nat} {A : Option Addr} {n : Nat} {l : List Int} (hr : Kd.C (Kd.int .u8) w0 A l.length l) (hc : l.length ≤ n) (hs : l.length ≤ 1000000) (hbb : isBytes l)
    (h1 : g = w0.heap.size) (h2 : w2 = w0.alloc (.cells #[.slice A l.length n, .int .i64 0, .bool false, .int .i64 0] 78)) : LQ w0 w2.heap.size g w2 (cu l) [] [] (.slice none 0 0) := by
  have hrow : Row 0 w0.heap.size w0 A l := Kd.C_kept_came (Kd.heap_int .u8) hr (Below.refl _ _) (fun k hk => by omega)
  have hq := q_new hrow hc hs hbb (W := w0) (Kept.refl _ _)
  have hb2 : Below w0.heap.size w0 w2 := by rw [h2]; exact below_alloc (Below.refl _ _) _
  have hz : w2.heap.size = w0.heap.size + 1 := by rw [h2, World.size_alloc]
  exact ⟨hb2, by rw [h1, h2]; exact hq, Kd.R_nil _ _ _ _ _, Zip.nil _, ⟨by omega, by omega, Nat.le_refl _⟩, by simpa [cu] using hs⟩
theorem LQ.drew {w0 W : World} {B g : Nat} {c : Cu} {os : List S43} {raws : List RawR} {v : Value} (h : LQ w0 B g W c os raws v) : LQ w0 B g W.drew c os raws v :=
  h.move ⟨rfl, rfl, rfl, Kept.refl _ _⟩ (h.cur.on (S := fun _ => False) (Kept.refl W _).drew (fun _ h => h.elim) (fun h => h)) h.bd
def pt.T21 : Bool × List (List Nat × List Nat) := (true, [([], []), ([], []), ([1], [1]), ([2], [2]), ([3], [3]), ([0, 0], [0]), ([4, 5, 0, 1, 2, 3, 4, 5], [4])])
def pt.B21 : List Nat := [0, 0, 2, 6, 14, 1, 63]
theorem pt.tab21 : rtab .any (opsOf Try.f28 21) = pt.T21 := by kernel_rfl
theorem pt.bits21 : waitsOk pt.T21.2 pt.B21 = true := by kernel_rfl
def pt.T14 : Bool × List (List Nat × List Nat) := (true, [([], []), ([], []), ([1], [1]), ([2], [2]), ([3], [3]), ([], []), ([5], [5]), ([4, 6], [4, 6]), ([0, 7, 6], [0, 7])])
def pt.B14 : List Nat := [0, 0, 2, 6, 14, 0, 32, 126, 255]
theorem pt.tab14 : rtab .any (opsOf Try.f28 14) = pt.T14 := by kernel_rfl
theorem pt.bits14 : waitsOk pt.T14.2 pt.B14 = true := by kernel_rfl
theorem rparts0 {A : Option Addr} {n : Nat} {l : List Int} {w0 : World} (hr : Kd.C (Kd.int .u8) w0 A l.length l) (hc : l.length ≤ n) (hs : l.length ≤ 1000000) (hb : isBytes l) :
    Calls Try.prog 28 #[.int .i64 0, .int .u8 20, .slice A l.length n] w0 (PartsQ rd0 l w0) := by
  have HR := Aside0.mk hr
  have HC := Aside0.mk hc
  have HS := Aside0.mk hs
  have HBB := Aside0.mk hb
  clear hr hc hs hb
  go_enter Try.func28, Try.ntmps28
  go_upto_region 2 with (first | ((with_reducible refine gate_dst (N := 16) rfl ?_); refine QS.ev_cur rfl rfl rfl ?_; intro g w2 q1_ q2_; have HP := Aside0.mk (LQ.first HR.out HC.out HS.out HBB.out q1_ q2_); clear q1_ q2_))
  clear HR HC HBB
  obtain ⟨B, eB_⟩ : ∃ z, z = w2.heap.size := ⟨_, rfl⟩
  rw [← eB_] at HP
  clear eB_
  go_wp2
  go_loopw [9, 10] (fun v_ s_ wr => ∃ (c : Cu) (s : Int) (os : List S43) (raws : List RawR) (v : Value) (k : Nat), v = v_ ∧ s_ = .int .i64 s ∧ Aside0 (LQ w0 B g wr c os raws v) ∧ Aside0 (c.xs.length ≤ k) ∧ Aside0 (c.e = 0 → 0 ≤ s ∧ s ≤ 245) ∧ Aside0 (partsG rd0 l.length 0 (cu l) = ((partsG rd0 k s c).1, os ++ (partsG rd0 k s c).2))) (fun _ _ wr => leftQ wr g)
  case atStart => exact ⟨cu l, 0, [], [], _, l.length, rfl, rfl, HP, ⟨Nat.le_refl _⟩, ⟨fun _ => ⟨by decide, by decide⟩⟩, ⟨by simp⟩⟩
  case round =>
    clear HP
    obtain ⟨c, s, os, raws, v, k, rfl, rfl, HP, HLE, HSB, HPG⟩ := hrel
    have HMW := Aside0.mk (leftQ_at HP.out.cur)
    have ke : World.cell? _ ⟨g, 3, none⟩ = some (Value.int .i64 c.e) := (QAt.cells HP.out.cur).2
    by_cases hx : c.xs = []
    · have hl : c.xs.length = 0 := by rw [hx]; rfl
      have HX := Aside0.mk (parts_stop HPG.out (.inl hx))
      clear hx
      go_upto_region 19 with (first | (go_at_call 44; (with_reducible refine (q_left HP.out.cur).mono ?_); rintro en x1 ⟨rfl, hp_, hu_⟩; rw [hl]; have n0_ := Aside0.mk (HP.out.move hu_ hp_ HP.out.bd); clear HP hp_ hu_ ke; have HP := n0_; clear n0_; have ke : World.cell? _ ⟨g, 3, none⟩ = some (Value.int .i64 c.e) := (QAt.cells HP.out.cur).2))
      by_cases h2 : c.e = 2
      · have g2 : (c.e == 2) = true := by rw [h2]; rfl
        have g0 : (2 : Int) ≠ 0 := by decide
        have H2 := Aside0.mk h2
        clear h2
        go_wp2
        exact bodyPost_ret (results_tmp2 rfl _ _ _) rfl (PartsQ.bad (by rw [← HX.out.1, H2.out]; rfl) HP.out.b (by rw [← HX.out.1, H2.out]; decide))
      · have g2 : (c.e == 2) = false := by simpa using h2
        have H2 := Aside0.mk h2
        clear h2
        go_upto_region 21 with (fail)
        have n0_ := Aside0.mk HP.out.drew
        have ke1 : World.cell? _ ⟨g, 3, none⟩ = some (Value.int .i64 c.e) := (QAt.cells n0_.out.cur).2
        clear HP ke
        have HP := n0_
        clear n0_
        refine start_ (n := 7) (S := fun w' => w'.cell? ⟨g, 3, none⟩ = some (.int .i64 c.e)) (ds := []) (bm 7 0) (by as_aux_lemma => kernel_rfl) rfl (by as_aux_lemma => kernel_rfl) (ke1) (fun hHeld => ?_)
        refine with_tabW pt.tab21 pt.bits21 (fun HT_ HW_ => ?_)
        refine pure_ (i := 0) (N := some 103) (v := ?_) (a' := ?_) (bm 7 1) rfl rfl (any_of HT_.out (by as_aux_lemma => kernel_rfl)) (fun _ _ _ h => h) (Or.inl ⟨by rfl, ?_⟩) ?_ ?_
        rotate_left
        · intro w'
          go_simp
          with_reducible rfl
        rotate_left
        · simp only [Act.put, List.setIfInBounds_toArray, List.set_cons_zero, List.set_cons_succ, i64_w, i32_w]
          rfl
        refine pure_ (i := 1) (N := some 104) (v := ?_) (a' := ?_) (bm 7 3) rfl rfl (any_of HT_.out (by as_aux_lemma => kernel_rfl)) (fun _ _ _ h => h) (Or.inl ⟨by rfl, ?_⟩) ?_ ?_
        rotate_left
        · intro w'
          go_simp
          with_reducible rfl
        rotate_left
        · simp only [Act.put, List.setIfInBounds_toArray, List.set_cons_zero, List.set_cons_succ, i64_w, i32_w]
          rfl
        refine pure_ (i := 2) (N := some 105) (v := ?_) (a' := ?_) (bm 7 7) rfl rfl (any_of HT_.out (by as_aux_lemma => kernel_rfl)) (fun _ _ _ h => h) (Or.inl ⟨by rfl, ?_⟩) ?_ ?_
        rotate_left
        · intro w'
          go_simp
          with_reducible rfl
        rotate_left
        · simp only [Act.put, List.setIfInBounds_toArray, List.set_cons_zero, List.set_cons_succ, i64_w, i32_w]
          rfl
        refine pure_ (i := 3) (N := some 106) (v := ?_) (a' := ?_) (bm 7 15) rfl rfl (any_of HT_.out (by as_aux_lemma => kernel_rfl)) (fun _ _ _ h => h) (Or.inl ⟨by rfl, ?_⟩) ?_ ?_
        rotate_left
        · intro w'
          go_simp
          with_reducible rfl
        rotate_left
        · simp only [Act.put, List.setIfInBounds_toArray, List.set_cons_zero, List.set_cons_succ, i64_w, i32_w]
          rfl
        refine pure_ (i := 5) (N := some 6) (v := ?_) (a' := ?_) (bm 7 47) rfl rfl (any_of HT_.out (by as_aux_lemma => kernel_rfl)) (fun _ _ _ h => h) (Or.inl ⟨by rfl, ?_⟩) ?_ ?_
        rotate_left
        · intro w'
          go_simp
          with_reducible rfl
        rotate_left
        · simp only [Act.put, List.setIfInBounds_toArray, List.set_cons_zero, List.set_cons_succ, i64_w, i32_w]
          rfl
        refine take_ (i := 4) (N := some 107) (v := ?_) (a' := ?_) (bm 7 63) rfl rfl (take_ofW HT_.out HW_.out (by as_aux_lemma => kernel_rfl)) (fun _ _ _ h => h) (Or.inl ⟨by rfl, ?_⟩) hHeld ?_ ?_
        rotate_left
        · intro w' s0
          go_simp
          with_reducible rfl
        rotate_left
        · simp only [Act.put, List.setIfInBounds_toArray, List.set_cons_zero, List.set_cons_succ, i64_w, i32_w]
          rfl
        refine pure_ (i := 6) (N := some 7) (v := ?_) (a' := ?_) (bm 7 127) rfl rfl (any_of HT_.out (by as_aux_lemma => kernel_rfl)) (fun _ _ _ h => h) (Or.inl ⟨by rfl, ?_⟩) ?_ ?_
        rotate_left
        · intro w'
          go_simp
          with_reducible rfl
        rotate_left
        · simp only [Act.put, List.setIfInBounds_toArray, List.set_cons_zero, List.set_cons_succ, i64_w, i32_w]
          rfl
        refine done_ (done_of HT_.out (by as_aux_lemma => kernel_rfl)) ?_
        go_wp2
        refine bodyPost_ret (results_tmp2 rfl _ _ _) rfl ?_
        simp only [Array.getD_eq_getD_getElem?, List.getElem?_toArray, List.getElem?_cons_succ, List.getElem?_cons_zero, Option.getD_some]
        exact LQ.done HP.out HX.out H2.out
    · have hl : 0 < (c.xs.length : Int) := by have := List.length_pos_iff.2 hx; omega
      have NX := Aside0.mk hx
      clear hx
      by_cases he : c.e = 0
      · have g1 : (c.e == 0) = true := by rw [he]; rfl
        have HE := Aside0.mk he
        clear he
        go_upto_region 5 with (first | (go_at_call 44; (with_reducible refine (q_left HP.out.cur).mono ?_); rintro en x1 ⟨rfl, hp_, hu_⟩; have n0_ := Aside0.mk (HP.out.move hu_ hp_ HP.out.bd); clear HP hp_ hu_ ke; have HP := n0_; clear n0_; have ke : World.cell? _ ⟨g, 3, none⟩ = some (Value.int .i64 c.e) := (QAt.cells HP.out.cur).2))
        have hlt_ := rdok0.lt s c (QAt.good HP.out.cur) NX.out
        have hgr_ := rdok0.gd s c (QAt.good HP.out.cur)
        have hsm_ := rdok0.sm s c (QAt.good HP.out.cur) (HSB.out HE.out).1 (HSB.out HE.out).2
        have LT := Aside0.mk hlt_
        have GR := Aside0.mk hgr_
        have SM := Aside0.mk hsm_
        clear hlt_ hgr_ hsm_ ke
        obtain ⟨s0, s9⟩ := HSB.out HE.out
        go_upto_region 6 with (first | ((with_reducible refine gate_dst (N := 11) rfl ?_); refine ev_rec rfl rfl ?_; intro b w1 hg_ h1_ h2_; have H := Aside0.mk (HQ.start HP.out.cur h2_ hg_ h1_); have GB := Aside0.mk hg_; clear hg_ h1_ h2_) | ((with_reducible refine gate_op (u := .store 43 (.tmp 11) (.tmp 27)) rfl ?_); refine Same.wpList_store_row 43 (.tmp 11) (.tmp 27) rfl rfl rfl rfl H.out.h2 rfl (rec_info rfl) recs_one ?_; intro w3 h3_ h4_; have m0_ := Aside0.mk (HQ.row H.out h3_ h4_); clear H h3_ h4_; have H := m0_; clear m0_))
        obtain ⟨⟨c1, f0, f1, f2⟩, eh_⟩ : ∃ z, z = head c := ⟨_, rfl⟩
        have HD := Aside0.mk eh_
        have hb_ := head_bd (QAt.good HP.out.cur)
        rw [← eh_] at hb_
        obtain ⟨l2, h2⟩ : 0 ≤ f2 ∧ f2 < 65536 := hb_
        clear eh_
        go_upto_region 13 with (first | (go_at_call 48; (with_reducible refine (rhead_let HD.out H.out.cur).mono ?_); rintro en x2 ⟨rfl, hp_, hu_⟩; have m0_ := Aside0.mk (H.out.stp hp_ hu_); clear H hp_ hu_; have H := m0_; clear m0_) | ((with_reducible refine gate_op (u := .store 43 (.tmp 11) (.tmp 65)) rfl ?_); refine Same.wpList_store_row 43 (.tmp 11) (.tmp 65) rfl rfl rfl rfl H.out.h2 rfl (rec_info rfl) recs_one ?_; intro x4 h3_ h4_; have m0_ := Aside0.mk (HQ.row H.out h3_ h4_); clear H h3_ h4_; have H := m0_; clear m0_))
        have k2 : World.cell? _ _ = some (Value.int .u16 f2) := (HQ.at H.out 2).1
        have wk0 := wrap64_id (x := s + 2) (by omega) (by omega)
        have wk0b : IntKind.i64.wrap (s + 2) = s + 2 := by rw [i64_w]; exact wk0
        have wk := wrap64_id (x := 2 * f2) (by omega) (by omega)
        have wkb : IntKind.i64.wrap (2 * f2) = 2 * f2 := by rw [i64_w]; exact wk
        have wk2 := wrap64_id (x := s + 2 + 2 * f2) (by omega) (by omega)
        have wk2b : IntKind.i64.wrap (s + 2 + 2 * f2) = s + 2 + 2 * f2 := by rw [i64_w]; exact wk2
        go_upto_region 18 with (first | (go_at_call 46; (with_reducible refine (HQ.need H.out (decide (s + 2 + 2 * f2 ≤ 245)) 5).mono ?_); rintro en x3 ⟨rfl, hp_⟩; obtain ⟨c2, ec_⟩ : ∃ z, z = c1.need (decide (s + 2 + 2 * f2 ≤ 245)) 5 := ⟨_, rfl⟩; rw [← ec_] at hp_; have Ec2 := Aside0.mk ec_; clear ec_; have n0_ := Aside0.mk hp_; clear H hp_; have H := n0_; clear n0_))
        clear k2
        have HE8 : Aside0 (rd0 s c = (c2, ⟨f0, f1, f2, []⟩, s + 2 + 2 * f2)) := ⟨by
          show asked s c = _
          simp only [asked]
          rw [← HD.out, Int.add_assoc, ← Int.add_assoc s 2 (2 * f2), ← Ec2.out]⟩
        have HE9 : Aside0 (rd0 s c = (c2, (⟨f0, f1, f2, []⟩ : S43), (s + 2 + 2 * f2))) := ⟨HE8.out⟩
        have LT2 := LT.out
        have GR2 := GR.out
        have SM2 := SM.out
        rw [HE9.out] at LT2 GR2 SM2
        clear LT GR SM
        have LT := Aside0.mk (show c2.xs.length < c.xs.length from LT2)
        have GR := Aside0.mk GR2
        have SM := Aside0.mk SM2
        clear LT2 GR2 SM2
        have HL1 := Aside0.mk (HP.out.move H.out.up H.out.cur (by have := HP.out.bd; have := LT.out; omega))
        have FT := Aside0.mk (show ∀ W', Kept x3 W' (fun k => k < B ∨ v.ownBlock = some k) → FitsR W' (⟨f0, f1, f2, none, 0, 0⟩ : RawR) ⟨f0, f1, f2, []⟩ from fun W' _ => fits_nil rfl rfl rfl rfl rfl rfl)
        obtain ⟨r_, er_⟩ : ∃ z : RawR, z = ⟨f0, f1, f2, none, 0, 0⟩ := ⟨_, rfl⟩
        have ER := Aside0.mk er_
        have H2 := Aside0.mk (show HQ _ g w0.heap.size b _ c2 #[Value.int .u16 r_.f0, .int .u16 r_.f1, .int .u16 r_.f2, .slice r_.A r_.n r_.c] from by rw [er_]; exact H.out)
        rw [← er_] at FT
        clear H er_
        have H := H2
        clear H2
        go_wp2_with (first | ((with_reducible refine gate_dst (N := 95) rfl ?_); refine wpList_load_row rfl 43 (.tmp 11) rfl b rfl 43 _ (0, 0) _ H.out.h2 Try.underlying43 rfl (rec_info rfl) ?_) | ((with_reducible refine gate_dst (N := 97) rfl ?_); refine Kd.R_append kRawR B rfl (.tmp 94) (.tmp 96) 27 43 (.agg recZ) 32 rfl Try.underlying27 (by kernel_rfl) rfl (by decide) (by decide) v raws r_ [Value.int .u16 r_.f0, .int .u16 r_.f1, .int .u16 r_.f2, .slice r_.A r_.n r_.c] (fun k => B ≤ k) (fun _ => False) rfl (by first | rfl | (rw [World.size_setCell]; rfl)) rfl (fun _ h => h.elim) (fun k hk => Nat.le_trans HL1.out.g.2.2 hk) HL1.out.row (Below.refl _ _) HL1.out.g.2.2 (by have := HL1.out.few; omega) ?_; intro v1 y3 r1_ hb1 g1_ hv1_; have R1 := Aside0.mk r1_; have G1 := Aside0.mk g1_; have V1 := Aside0.mk hv1_; have B1 := Aside0.mk hb1; obtain ⟨A9, n9, e9, _, _⟩ := Kd.R_reads r1_; obtain ⟨N9, hN9⟩ : ∃ z, z = (raws ++ [r_]).length := ⟨_, rfl⟩; rw [← hN9] at e9; clear hN9; subst e9; clear r1_ g1_ hv1_ hb1))
        have HN := Aside0.mk (HL1.out.push (o := (⟨f0, f1, f2, []⟩ : S43)) GR.out FT.out (by have := HP.out.bd; have := LT.out; omega) R1.out (HL1.out.b.trans (B1.out.mono (by have := HL1.out.g; omega))) G1.out V1.out)
        obtain ⟨k', hk'⟩ : ∃ k', k = k' + 1 := ⟨k - 1, by have := HLE.out; have := LT.out; omega⟩
        have HP2 := HPG.out
        rw [hk'] at HP2
        have HPN := Aside0.mk (parts_step HP2 NX.out HE.out HE9.out.symm)
        have HLN := Aside0.mk (show c2.xs.length ≤ k' by have := HLE.out; have := LT.out; omega)
        have MS := Aside0.mk (show leftQ y3 g < leftQ wr g by rw [leftQ_at HN.out.cur, HMW.out]; exact LT.out)
        clear HP2 hk' HPG HLE HP H
        go_roundw
        case rel => exact ⟨c2, (s + 2 + 2 * f2), os ++ [(⟨f0, f1, f2, []⟩ : S43)], _, _, k', rfl, rfl, HN, HLN, SM, HPN⟩
        case measure => exact MS.out
      · have g1 : (c.e == 0) = false := by simpa using he
        have HX := Aside0.mk (parts_stop HPG.out (.inr he))
        clear he
        go_upto_region 19 with (first | (go_at_call 44; (with_reducible refine (q_left HP.out.cur).mono ?_); rintro en x1 ⟨rfl, hp_, hu_⟩; have n0_ := Aside0.mk (HP.out.move hu_ hp_ HP.out.bd); clear HP hp_ hu_ ke; have HP := n0_; clear n0_; have ke : World.cell? _ ⟨g, 3, none⟩ = some (Value.int .i64 c.e) := (QAt.cells HP.out.cur).2))
        by_cases h2 : c.e = 2
        · have g2 : (c.e == 2) = true := by rw [h2]; rfl
          have g0 : (2 : Int) ≠ 0 := by decide
          have H2 := Aside0.mk h2
          clear h2
          go_wp2
          exact bodyPost_ret (results_tmp2 rfl _ _ _) rfl (PartsQ.bad (by rw [← HX.out.1, H2.out]; rfl) HP.out.b (by rw [← HX.out.1, H2.out]; decide))
        · have g2 : (c.e == 2) = false := by simpa using h2
          have H2 := Aside0.mk h2
          clear h2
          go_upto_region 21 with (fail)
          have n0_ := Aside0.mk HP.out.drew
          have ke1 : World.cell? _ ⟨g, 3, none⟩ = some (Value.int .i64 c.e) := (QAt.cells n0_.out.cur).2
          clear HP ke
          have HP := n0_
          clear n0_
          refine start_ (n := 7) (S := fun w' => w'.cell? ⟨g, 3, none⟩ = some (.int .i64 c.e)) (ds := []) (bm 7 0) (by as_aux_lemma => kernel_rfl) rfl (by as_aux_lemma => kernel_rfl) (ke1) (fun hHeld => ?_)
          refine with_tabW pt.tab21 pt.bits21 (fun HT_ HW_ => ?_)
          refine pure_ (i := 0) (N := some 103) (v := ?_) (a' := ?_) (bm 7 1) rfl rfl (any_of HT_.out (by as_aux_lemma => kernel_rfl)) (fun _ _ _ h => h) (Or.inl ⟨by rfl, ?_⟩) ?_ ?_
          rotate_left
          · intro w'
            go_simp
            with_reducible rfl
          rotate_left
          · simp only [Act.put, List.setIfInBounds_toArray, List.set_cons_zero, List.set_cons_succ, i64_w, i32_w]
            rfl
          refine pure_ (i := 1) (N := some 104) (v := ?_) (a' := ?_) (bm 7 3) rfl rfl (any_of HT_.out (by as_aux_lemma => kernel_rfl)) (fun _ _ _ h => h) (Or.inl ⟨by rfl, ?_⟩) ?_ ?_
          rotate_left
          · intro w'
            go_simp
            with_reducible rfl
          rotate_left
          · simp only [Act.put, List.setIfInBounds_toArray, List.set_cons_zero, List.set_cons_succ, i64_w, i32_w]
            rfl
          refine pure_ (i := 2) (N := some 105) (v := ?_) (a' := ?_) (bm 7 7) rfl rfl (any_of HT_.out (by as_aux_lemma => kernel_rfl)) (fun _ _ _ h => h) (Or.inl ⟨by rfl, ?_⟩) ?_ ?_
          rotate_left
          · intro w'
            go_simp
            with_reducible rfl
          rotate_left
          · simp only [Act.put, List.setIfInBounds_toArray, List.set_cons_zero, List.set_cons_succ, i64_w, i32_w]
            rfl
          refine pure_ (i := 3) (N := some 106) (v := ?_) (a' := ?_) (bm 7 15) rfl rfl (any_of HT_.out (by as_aux_lemma => kernel_rfl)) (fun _ _ _ h => h) (Or.inl ⟨by rfl, ?_⟩) ?_ ?_
          rotate_left
          · intro w'
            go_simp
            with_reducible rfl
          rotate_left
          · simp only [Act.put, List.setIfInBounds_toArray, List.set_cons_zero, List.set_cons_succ, i64_w, i32_w]
            rfl
          refine pure_ (i := 5) (N := some 6) (v := ?_) (a' := ?_) (bm 7 47) rfl rfl (any_of HT_.out (by as_aux_lemma => kernel_rfl)) (fun _ _ _ h => h) (Or.inl ⟨by rfl, ?_⟩) ?_ ?_
          rotate_left
          · intro w'
            go_simp
            with_reducible rfl
          rotate_left
          · simp only [Act.put, List.setIfInBounds_toArray, List.set_cons_zero, List.set_cons_succ, i64_w, i32_w]
            rfl
          refine take_ (i := 4) (N := some 107) (v := ?_) (a' := ?_) (bm 7 63) rfl rfl (take_ofW HT_.out HW_.out (by as_aux_lemma => kernel_rfl)) (fun _ _ _ h => h) (Or.inl ⟨by rfl, ?_⟩) hHeld ?_ ?_
          rotate_left
          · intro w' s0
            go_simp
            with_reducible rfl
          rotate_left
          · simp only [Act.put, List.setIfInBounds_toArray, List.set_cons_zero, List.set_cons_succ, i64_w, i32_w]
            rfl
          refine pure_ (i := 6) (N := some 7) (v := ?_) (a' := ?_) (bm 7 127) rfl rfl (any_of HT_.out (by as_aux_lemma => kernel_rfl)) (fun _ _ _ h => h) (Or.inl ⟨by rfl, ?_⟩) ?_ ?_
          rotate_left
          · intro w'
            go_simp
            with_reducible rfl
          rotate_left
          · simp only [Act.put, List.setIfInBounds_toArray, List.set_cons_zero, List.set_cons_succ, i64_w, i32_w]
            rfl
          refine done_ (done_of HT_.out (by as_aux_lemma => kernel_rfl)) ?_
          go_wp2
          refine bodyPost_ret (results_tmp2 rfl _ _ _) rfl ?_
          simp only [Array.getD_eq_getD_getElem?, List.getElem?_toArray, List.getElem?_cons_succ, List.getElem?_cons_zero, Option.getD_some]
          exact LQ.done HP.out HX.out H2.out
theorem rparts1 {A : Option Addr} {n : Nat} {l : List Int} {w0 : World} (hr : Kd.C (Kd.int .u8) w0 A l.length l) (hc : l.length ≤ n) (hs : l.length ≤ 1000000) (hb : isBytes l) :
    Calls Try.prog 28 #[.int .i64 1, .int .u8 20, .slice A l.length n] w0 (PartsQ rd1 l w0) := by
  have HR := Aside0.mk hr
  have HC := Aside0.mk hc
  have HS := Aside0.mk hs
  have HBB := Aside0.mk hb
  clear hr hc hs hb
  go_enter Try.func28, Try.ntmps28
  go_upto_region 2 with (first | ((with_reducible refine gate_dst (N := 16) rfl ?_); refine QS.ev_cur rfl rfl rfl ?_; intro g w2 q1_ q2_; have HP := Aside0.mk (LQ.first HR.out HC.out HS.out HBB.out q1_ q2_); clear q1_ q2_))
  clear HR HC HBB
  obtain ⟨B, eB_⟩ : ∃ z, z = w2.heap.size := ⟨_, rfl⟩
  rw [← eB_] at HP
  clear eB_
  go_wp2
  go_loopw [9] (fun v_ wr => ∃ (c : Cu) (s : Int) (os : List S43) (raws : List RawR) (v : Value) (k : Nat), v = v_ ∧ Aside0 (LQ w0 B g wr c os raws v) ∧ Aside0 (c.xs.length ≤ k) ∧ Aside0 (c.e = 0 → 0 ≤ s ∧ s ≤ 245) ∧ Aside0 (partsG rd1 l.length 0 (cu l) = ((partsG rd1 k s c).1, os ++ (partsG rd1 k s c).2))) (fun _ wr => leftQ wr g)
  case atStart => exact ⟨cu l, 0, [], [], _, l.length, rfl, HP, ⟨Nat.le_refl _⟩, ⟨fun _ => ⟨by decide, by decide⟩⟩, ⟨by simp⟩⟩
  case round =>
    clear HP
    obtain ⟨c, s, os, raws, v, k, rfl, HP, HLE, HSB, HPG⟩ := hrel
    have HMW := Aside0.mk (leftQ_at HP.out.cur)
    have ke : World.cell? _ ⟨g, 3, none⟩ = some (Value.int .i64 c.e) := (QAt.cells HP.out.cur).2
    by_cases hx : c.xs = []
    · have hl : c.xs.length = 0 := by rw [hx]; rfl
      have HX := Aside0.mk (parts_stop HPG.out (.inl hx))
      clear hx
      go_upto_region 19 with (first | (go_at_call 44; (with_reducible refine (q_left HP.out.cur).mono ?_); rintro en x1 ⟨rfl, hp_, hu_⟩; rw [hl]; have n0_ := Aside0.mk (HP.out.move hu_ hp_ HP.out.bd); clear HP hp_ hu_ ke; have HP := n0_; clear n0_; have ke : World.cell? _ ⟨g, 3, none⟩ = some (Value.int .i64 c.e) := (QAt.cells HP.out.cur).2))
      by_cases h2 : c.e = 2
      · have g2 : (c.e == 2) = true := by rw [h2]; rfl
        have g0 : (2 : Int) ≠ 0 := by decide
        have H2 := Aside0.mk h2
        clear h2
        go_wp2
        exact bodyPost_ret (results_tmp2 rfl _ _ _) rfl (PartsQ.bad (by rw [← HX.out.1, H2.out]; rfl) HP.out.b (by rw [← HX.out.1, H2.out]; decide))
      · have g2 : (c.e == 2) = false := by simpa using h2
        have H2 := Aside0.mk h2
        clear h2
        go_upto_region 21 with (fail)
        have n0_ := Aside0.mk HP.out.drew
        have ke1 : World.cell? _ ⟨g, 3, none⟩ = some (Value.int .i64 c.e) := (QAt.cells n0_.out.cur).2
        clear HP ke
        have HP := n0_
        clear n0_
        refine start_ (n := 7) (S := fun w' => w'.cell? ⟨g, 3, none⟩ = some (.int .i64 c.e)) (ds := []) (bm 7 0) (by as_aux_lemma => kernel_rfl) rfl (by as_aux_lemma => kernel_rfl) (ke1) (fun hHeld => ?_)
        refine with_tabW pt.tab21 pt.bits21 (fun HT_ HW_ => ?_)
        refine pure_ (i := 0) (N := some 103) (v := ?_) (a' := ?_) (bm 7 1) rfl rfl (any_of HT_.out (by as_aux_lemma => kernel_rfl)) (fun _ _ _ h => h) (Or.inl ⟨by rfl, ?_⟩) ?_ ?_
        rotate_left
        · intro w'
          go_simp
          with_reducible rfl
        rotate_left
        · simp only [Act.put, List.setIfInBounds_toArray, List.set_cons_zero, List.set_cons_succ, i64_w, i32_w]
          rfl
        refine pure_ (i := 1) (N := some 104) (v := ?_) (a' := ?_) (bm 7 3) rfl rfl (any_of HT_.out (by as_aux_lemma => kernel_rfl)) (fun _ _ _ h => h) (Or.inl ⟨by rfl, ?_⟩) ?_ ?_
        rotate_left
        · intro w'
          go_simp
          with_reducible rfl
        rotate_left
        · simp only [Act.put, List.setIfInBounds_toArray, List.set_cons_zero, List.set_cons_succ, i64_w, i32_w]
          rfl
        refine pure_ (i := 2) (N := some 105) (v := ?_) (a' := ?_) (bm 7 7) rfl rfl (any_of HT_.out (by as_aux_lemma => kernel_rfl)) (fun _ _ _ h => h) (Or.inl ⟨by rfl, ?_⟩) ?_ ?_
        rotate_left
        · intro w'
          go_simp
          with_reducible rfl
        rotate_left
        · simp only [Act.put, List.setIfInBounds_toArray, List.set_cons_zero, List.set_cons_succ, i64_w, i32_w]
          rfl
        refine pure_ (i := 3) (N := some 106) (v := ?_) (a' := ?_) (bm 7 15) rfl rfl (any_of HT_.out (by as_aux_lemma => kernel_rfl)) (fun _ _ _ h => h) (Or.inl ⟨by rfl, ?_⟩) ?_ ?_
        rotate_left
        · intro w'
          go_simp
          with_reducible rfl
        rotate_left
        · simp only [Act.put, List.setIfInBounds_toArray, List.set_cons_zero, List.set_cons_succ, i64_w, i32_w]
          rfl
        refine pure_ (i := 5) (N := some 6) (v := ?_) (a' := ?_) (bm 7 47) rfl rfl (any_of HT_.out (by as_aux_lemma => kernel_rfl)) (fun _ _ _ h => h) (Or.inl ⟨by rfl, ?_⟩) ?_ ?_
        rotate_left
        · intro w'
          go_simp
          with_reducible rfl
        rotate_left
        · simp only [Act.put, List.setIfInBounds_toArray, List.set_cons_zero, List.set_cons_succ, i64_w, i32_w]
          rfl
        refine take_ (i := 4) (N := some 107) (v := ?_) (a' := ?_) (bm 7 63) rfl rfl (take_ofW HT_.out HW_.out (by as_aux_lemma => kernel_rfl)) (fun _ _ _ h => h) (Or.inl ⟨by rfl, ?_⟩) hHeld ?_ ?_
        rotate_left
        · intro w' s0
          go_simp
          with_reducible rfl
        rotate_left
        · simp only [Act.put, List.setIfInBounds_toArray, List.set_cons_zero, List.set_cons_succ, i64_w, i32_w]
          rfl
        refine pure_ (i := 6) (N := some 7) (v := ?_) (a' := ?_) (bm 7 127) rfl rfl (any_of HT_.out (by as_aux_lemma => kernel_rfl)) (fun _ _ _ h => h) (Or.inl ⟨by rfl, ?_⟩) ?_ ?_
        rotate_left
        · intro w'
          go_simp
          with_reducible rfl
        rotate_left
        · simp only [Act.put, List.setIfInBounds_toArray, List.set_cons_zero, List.set_cons_succ, i64_w, i32_w]
          rfl
        refine done_ (done_of HT_.out (by as_aux_lemma => kernel_rfl)) ?_
        go_wp2
        refine bodyPost_ret (results_tmp2 rfl _ _ _) rfl ?_
        simp only [Array.getD_eq_getD_getElem?, List.getElem?_toArray, List.getElem?_cons_succ, List.getElem?_cons_zero, Option.getD_some]
        exact LQ.done HP.out HX.out H2.out
    · have hl : 0 < (c.xs.length : Int) := by have := List.length_pos_iff.2 hx; omega
      have NX := Aside0.mk hx
      clear hx
      by_cases he : c.e = 0
      · have g1 : (c.e == 0) = true := by rw [he]; rfl
        have HE := Aside0.mk he
        clear he
        go_upto_region 5 with (first | (go_at_call 44; (with_reducible refine (q_left HP.out.cur).mono ?_); rintro en x1 ⟨rfl, hp_, hu_⟩; have n0_ := Aside0.mk (HP.out.move hu_ hp_ HP.out.bd); clear HP hp_ hu_ ke; have HP := n0_; clear n0_; have ke : World.cell? _ ⟨g, 3, none⟩ = some (Value.int .i64 c.e) := (QAt.cells HP.out.cur).2))
        have hlt_ := rdok1.lt s c (QAt.good HP.out.cur) NX.out
        have hgr_ := rdok1.gd s c (QAt.good HP.out.cur)
        have hsm_ := rdok1.sm s c (QAt.good HP.out.cur) (HSB.out HE.out).1 (HSB.out HE.out).2
        have LT := Aside0.mk hlt_
        have GR := Aside0.mk hgr_
        have SM := Aside0.mk hsm_
        clear hlt_ hgr_ hsm_ ke
        go_upto_region 6 with (first | ((with_reducible refine gate_dst (N := 11) rfl ?_); refine ev_rec rfl rfl ?_; intro b w1 hg_ h1_ h2_; have H := Aside0.mk (HQ.start HP.out.cur h2_ hg_ h1_); have GB := Aside0.mk hg_; clear hg_ h1_ h2_) | ((with_reducible refine gate_op (u := .store 43 (.tmp 11) (.tmp 27)) rfl ?_); refine Same.wpList_store_row 43 (.tmp 11) (.tmp 27) rfl rfl rfl rfl H.out.h2 rfl (rec_info rfl) recs_one ?_; intro w3 h3_ h4_; have m0_ := Aside0.mk (HQ.row H.out h3_ h4_); clear H h3_ h4_; have H := m0_; clear m0_))
        by_cases k1 : c.byteV % 2 = 1
        · by_cases k2 : 3 ≤ c.byteV
          · have K1 := Aside0.mk k1
            have e1 : (c.byteV % 2 == 1) = true := beq_iff_eq.2 k1
            have e2 : decide (3 ≤ c.byteV) = true := decide_eq_true k2
            have K2 := Aside0.mk k2
            clear k2
            go_upto_region 8 with (first | (go_at_call 45; obtain ⟨lc, hc⟩ := Cu.byteV_bd (HQ.good H.out); (with_reducible refine (HQ.byte H.out).mono ?_); rintro en x2 ⟨rfl, hp_⟩; obtain ⟨c1, ec_⟩ : ∃ z, z = c.byteS := ⟨_, rfl⟩; rw [← ec_] at hp_; have Ec1 := Aside0.mk ec_; clear ec_; have n0_ := Aside0.mk hp_; clear H hp_; have H := n0_; clear n0_))
            go_upto_region 9 with (first | (go_at_call 44; (with_reducible refine (HQ.left H.out).mono ?_); rintro en x_ ⟨rfl, hp_⟩; have n0_ := Aside0.mk hp_; clear H hp_; have H := n0_; clear n0_) | (go_at_call 46; (with_reducible refine (HQ.need H.out (decide (c.byteV ≤ (c1.xs.length : Int))) 5).mono ?_); rintro en x3 ⟨rfl, hp_⟩; obtain ⟨c2, ec_⟩ : ∃ z, z = c1.need (decide (c.byteV ≤ (c1.xs.length : Int))) 5 := ⟨_, rfl⟩; rw [← ec_] at hp_; have Ec2 := Aside0.mk ec_; clear ec_; have n0_ := Aside0.mk hp_; clear H hp_; have H := n0_; clear n0_))
            go_upto_region 10 with (first | (go_at_call 45; obtain ⟨lc2, hc2⟩ := Cu.byteV_bd (HQ.good H.out); (with_reducible refine (HQ.byte H.out).mono ?_); rintro en x4 ⟨rfl, hp_⟩; obtain ⟨c3, ec_⟩ : ∃ z, z = c2.byteS := ⟨_, rfl⟩; rw [← ec_] at hp_; have Ec3 := Aside0.mk ec_; clear ec_; have n0_ := Aside0.mk hp_; clear H hp_; have H := n0_; clear n0_))
            go_upto_region 11 with (first | (go_at_call 46; (with_reducible refine (HQ.need H.out (c2.byteV == 6) 9).mono ?_); rintro en x5 ⟨rfl, hp_⟩; obtain ⟨c4, ec_⟩ : ∃ z, z = c3.need (c2.byteV == 6) 9 := ⟨_, rfl⟩; rw [← ec_] at hp_; have Ec4 := Aside0.mk ec_; clear ec_; have n0_ := Aside0.mk hp_; clear H hp_; have H := n0_; clear n0_))
            have HE8 : Aside0 (rd1 s c = (c4.wordsS ((c.byteV - 1) / 2), ⟨0, 0, 0, c4.wordsV ((c.byteV - 1) / 2)⟩, s)) := ⟨by
              have ek : (decide (c.byteV % 2 = 1) && decide (3 ≤ c.byteV) && decide (c.byteV ≤ (c1.xs.length : Int))) = (decide (c.byteV ≤ (c1.xs.length : Int))) := by have k2 := K2.out; simp [K1.out]; omega
              show ((told c).1, (told c).2, s) = _
              simp only [told]
              rw [tdiv_id (show 0 ≤ c.byteV - 1 by have := K1.out; omega), ← Ec1.out, ek, ← Ec2.out, ← Ec3.out, ← Ec4.out]⟩
            go_upto_region 18 with (first | (go_at_call 47; (with_reducible refine (HQ.words H.out ((c.byteV - 1) / 2)).mono ?_); rintro en x6 ⟨A5, n5, rfl, hz_, hr_, hp_⟩; have RZ := Aside0.mk hz_; have RR := Aside0.mk hr_; have RU := Aside0.mk H.out; have k3 := (HQ.at hp_ 3).1; have g3 := (HQ.at hp_ 3).2; have n0_ := Aside0.mk hp_; clear H hp_; have H := n0_; clear n0_; clear hz_ hr_))
            have n0_ := Aside0.mk (HQ.put3 H.out (.slice A5 (c4.wordsV ((c.byteV - 1) / 2)).length n5))
            clear H k3 g3
            have H := n0_
            clear n0_
            have HE9 : Aside0 (rd1 s c = ((c4.wordsS ((c.byteV - 1) / 2)), (⟨0, 0, 0, c4.wordsV ((c.byteV - 1) / 2)⟩ : S43), s)) := ⟨HE8.out⟩
            have LT2 := LT.out
            have GR2 := GR.out
            have SM2 := SM.out
            rw [HE9.out] at LT2 GR2 SM2
            clear LT GR SM
            have LT := Aside0.mk (show (c4.wordsS ((c.byteV - 1) / 2)).xs.length < c.xs.length from LT2)
            have GR := Aside0.mk GR2
            have SM := Aside0.mk SM2
            clear LT2 GR2 SM2
            have HL1 := Aside0.mk (HP.out.move H.out.up H.out.cur (by have := HP.out.bd; have := LT.out; omega))
            have FT := Aside0.mk (fits_q (r := ⟨0, 0, 0, A5, (c4.wordsV ((c.byteV - 1) / 2)).length, n5⟩) (x := ⟨0, 0, 0, c4.wordsV ((c.byteV - 1) / 2)⟩) rfl rfl rfl rfl RZ.out HP.out RU.out.up.kept.1 RR.out ((Kept.refl x6 (fun k => k = b)).setCell (p := ⟨b, 3, none⟩) (.inl rfl) (.slice A5 (c4.wordsV ((c.byteV - 1) / 2)).length n5)) (blk_lt RU.out.h2))
            obtain ⟨r_, er_⟩ : ∃ z : RawR, z = ⟨0, 0, 0, A5, (c4.wordsV ((c.byteV - 1) / 2)).length, n5⟩ := ⟨_, rfl⟩
            have ER := Aside0.mk er_
            have H2 := Aside0.mk (show HQ _ g w0.heap.size b _ (c4.wordsS ((c.byteV - 1) / 2)) #[Value.int .u16 r_.f0, .int .u16 r_.f1, .int .u16 r_.f2, .slice r_.A r_.n r_.c] from by rw [er_]; exact H.out)
            rw [← er_] at FT
            clear H er_
            have H := H2
            clear H2
            go_wp2_with (first | ((with_reducible refine gate_dst (N := 95) rfl ?_); refine wpList_load_row rfl 43 (.tmp 11) rfl b rfl 43 _ (0, 0) _ H.out.h2 Try.underlying43 rfl (rec_info rfl) ?_) | ((with_reducible refine gate_dst (N := 97) rfl ?_); refine Kd.R_append kRawR B rfl (.tmp 94) (.tmp 96) 27 43 (.agg recZ) 32 rfl Try.underlying27 (by kernel_rfl) rfl (by decide) (by decide) v raws r_ [Value.int .u16 r_.f0, .int .u16 r_.f1, .int .u16 r_.f2, .slice r_.A r_.n r_.c] (fun k => B ≤ k) (fun _ => False) rfl (by first | rfl | (rw [World.size_setCell]; rfl)) rfl (fun _ h => h.elim) (fun k hk => Nat.le_trans HL1.out.g.2.2 hk) HL1.out.row (Below.refl _ _) HL1.out.g.2.2 (by have := HL1.out.few; omega) ?_; intro v1 y3 r1_ hb1 g1_ hv1_; have R1 := Aside0.mk r1_; have G1 := Aside0.mk g1_; have V1 := Aside0.mk hv1_; have B1 := Aside0.mk hb1; obtain ⟨A9, n9, e9, _, _⟩ := Kd.R_reads r1_; obtain ⟨N9, hN9⟩ : ∃ z, z = (raws ++ [r_]).length := ⟨_, rfl⟩; rw [← hN9] at e9; clear hN9; subst e9; clear r1_ g1_ hv1_ hb1))
            have HN := Aside0.mk (HL1.out.push (o := (⟨0, 0, 0, c4.wordsV ((c.byteV - 1) / 2)⟩ : S43)) GR.out FT.out (by have := HP.out.bd; have := LT.out; omega) R1.out (HL1.out.b.trans (B1.out.mono (by have := HL1.out.g; omega))) G1.out V1.out)
            obtain ⟨k', hk'⟩ : ∃ k', k = k' + 1 := ⟨k - 1, by have := HLE.out; have := LT.out; omega⟩
            have HP2 := HPG.out
            rw [hk'] at HP2
            have HPN := Aside0.mk (parts_step HP2 NX.out HE.out HE9.out.symm)
            have HLN := Aside0.mk (show (c4.wordsS ((c.byteV - 1) / 2)).xs.length ≤ k' by have := HLE.out; have := LT.out; omega)
            have MS := Aside0.mk (show leftQ y3 g < leftQ wr g by rw [leftQ_at HN.out.cur, HMW.out]; exact LT.out)
            clear HP2 hk' HPG HLE HP H
            go_roundw
            case rel => exact ⟨(c4.wordsS ((c.byteV - 1) / 2)), s, os ++ [(⟨0, 0, 0, c4.wordsV ((c.byteV - 1) / 2)⟩ : S43)], _, _, k', rfl, HN, HLN, SM, HPN⟩
            case measure => exact MS.out
          · have K1 := Aside0.mk k1
            have e1 : (c.byteV % 2 == 1) = true := beq_iff_eq.2 k1
            have e2 : decide (3 ≤ c.byteV) = false := decide_eq_false k2
            have K2 := Aside0.mk k2
            clear k2
            go_upto_region 8 with (first | (go_at_call 45; obtain ⟨lc, hc⟩ := Cu.byteV_bd (HQ.good H.out); (with_reducible refine (HQ.byte H.out).mono ?_); rintro en x2 ⟨rfl, hp_⟩; obtain ⟨c1, ec_⟩ : ∃ z, z = c.byteS := ⟨_, rfl⟩; rw [← ec_] at hp_; have Ec1 := Aside0.mk ec_; clear ec_; have n0_ := Aside0.mk hp_; clear H hp_; have H := n0_; clear n0_))
            go_upto_region 9 with (first | (go_at_call 46; (with_reducible refine (HQ.need H.out (false) 5).mono ?_); rintro en x3 ⟨rfl, hp_⟩; obtain ⟨c2, ec_⟩ : ∃ z, z = c1.need (false) 5 := ⟨_, rfl⟩; rw [← ec_] at hp_; have Ec2 := Aside0.mk ec_; clear ec_; have n0_ := Aside0.mk hp_; clear H hp_; have H := n0_; clear n0_))
            go_upto_region 10 with (first | (go_at_call 45; obtain ⟨lc2, hc2⟩ := Cu.byteV_bd (HQ.good H.out); (with_reducible refine (HQ.byte H.out).mono ?_); rintro en x4 ⟨rfl, hp_⟩; obtain ⟨c3, ec_⟩ : ∃ z, z = c2.byteS := ⟨_, rfl⟩; rw [← ec_] at hp_; have Ec3 := Aside0.mk ec_; clear ec_; have n0_ := Aside0.mk hp_; clear H hp_; have H := n0_; clear n0_))
            go_upto_region 11 with (first | (go_at_call 46; (with_reducible refine (HQ.need H.out (c2.byteV == 6) 9).mono ?_); rintro en x5 ⟨rfl, hp_⟩; obtain ⟨c4, ec_⟩ : ∃ z, z = c3.need (c2.byteV == 6) 9 := ⟨_, rfl⟩; rw [← ec_] at hp_; have Ec4 := Aside0.mk ec_; clear ec_; have n0_ := Aside0.mk hp_; clear H hp_; have H := n0_; clear n0_))
            have HE8 : Aside0 (rd1 s c = (c4.wordsS ((c.byteV - 1) / 2), ⟨0, 0, 0, c4.wordsV ((c.byteV - 1) / 2)⟩, s)) := ⟨by
              have ek : (decide (c.byteV % 2 = 1) && decide (3 ≤ c.byteV) && decide (c.byteV ≤ (c1.xs.length : Int))) = (false) := by have k2 := K2.out; simp [K1.out]; omega
              show ((told c).1, (told c).2, s) = _
              simp only [told]
              rw [tdiv_id (show 0 ≤ c.byteV - 1 by have := K1.out; omega), ← Ec1.out, ek, ← Ec2.out, ← Ec3.out, ← Ec4.out]⟩
            go_upto_region 18 with (first | (go_at_call 47; (with_reducible refine (HQ.words H.out ((c.byteV - 1) / 2)).mono ?_); rintro en x6 ⟨A5, n5, rfl, hz_, hr_, hp_⟩; have RZ := Aside0.mk hz_; have RR := Aside0.mk hr_; have RU := Aside0.mk H.out; have k3 := (HQ.at hp_ 3).1; have g3 := (HQ.at hp_ 3).2; have n0_ := Aside0.mk hp_; clear H hp_; have H := n0_; clear n0_; clear hz_ hr_))
            have n0_ := Aside0.mk (HQ.put3 H.out (.slice A5 (c4.wordsV ((c.byteV - 1) / 2)).length n5))
            clear H k3 g3
            have H := n0_
            clear n0_
            have HE9 : Aside0 (rd1 s c = ((c4.wordsS ((c.byteV - 1) / 2)), (⟨0, 0, 0, c4.wordsV ((c.byteV - 1) / 2)⟩ : S43), s)) := ⟨HE8.out⟩
            have LT2 := LT.out
            have GR2 := GR.out
            have SM2 := SM.out
            rw [HE9.out] at LT2 GR2 SM2
            clear LT GR SM
            have LT := Aside0.mk (show (c4.wordsS ((c.byteV - 1) / 2)).xs.length < c.xs.length from LT2)
            have GR := Aside0.mk GR2
            have SM := Aside0.mk SM2
            clear LT2 GR2 SM2
            have HL1 := Aside0.mk (HP.out.move H.out.up H.out.cur (by have := HP.out.bd; have := LT.out; omega))
            have FT := Aside0.mk (fits_q (r := ⟨0, 0, 0, A5, (c4.wordsV ((c.byteV - 1) / 2)).length, n5⟩) (x := ⟨0, 0, 0, c4.wordsV ((c.byteV - 1) / 2)⟩) rfl rfl rfl rfl RZ.out HP.out RU.out.up.kept.1 RR.out ((Kept.refl x6 (fun k => k = b)).setCell (p := ⟨b, 3, none⟩) (.inl rfl) (.slice A5 (c4.wordsV ((c.byteV - 1) / 2)).length n5)) (blk_lt RU.out.h2))
            obtain ⟨r_, er_⟩ : ∃ z : RawR, z = ⟨0, 0, 0, A5, (c4.wordsV ((c.byteV - 1) / 2)).length, n5⟩ := ⟨_, rfl⟩
            have ER := Aside0.mk er_
            have H2 := Aside0.mk (show HQ _ g w0.heap.size b _ (c4.wordsS ((c.byteV - 1) / 2)) #[Value.int .u16 r_.f0, .int .u16 r_.f1, .int .u16 r_.f2, .slice r_.A r_.n r_.c] from by rw [er_]; exact H.out)
            rw [← er_] at FT
            clear H er_
            have H := H2
            clear H2
            go_wp2_with (first | ((with_reducible refine gate_dst (N := 95) rfl ?_); refine wpList_load_row rfl 43 (.tmp 11) rfl b rfl 43 _ (0, 0) _ H.out.h2 Try.underlying43 rfl (rec_info rfl) ?_) | ((with_reducible refine gate_dst (N := 97) rfl ?_); refine Kd.R_append kRawR B rfl (.tmp 94) (.tmp 96) 27 43 (.agg recZ) 32 rfl Try.underlying27 (by kernel_rfl) rfl (by decide) (by decide) v raws r_ [Value.int .u16 r_.f0, .int .u16 r_.f1, .int .u16 r_.f2, .slice r_.A r_.n r_.c] (fun k => B ≤ k) (fun _ => False) rfl (by first | rfl | (rw [World.size_setCell]; rfl)) rfl (fun _ h => h.elim) (fun k hk => Nat.le_trans HL1.out.g.2.2 hk) HL1.out.row (Below.refl _ _) HL1.out.g.2.2 (by have := HL1.out.few; omega) ?_; intro v1 y3 r1_ hb1 g1_ hv1_; have R1 := Aside0.mk r1_; have G1 := Aside0.mk g1_; have V1 := Aside0.mk hv1_; have B1 := Aside0.mk hb1; obtain ⟨A9, n9, e9, _, _⟩ := Kd.R_reads r1_; obtain ⟨N9, hN9⟩ : ∃ z, z = (raws ++ [r_]).length := ⟨_, rfl⟩; rw [← hN9] at e9; clear hN9; subst e9; clear r1_ g1_ hv1_ hb1))
            have HN := Aside0.mk (HL1.out.push (o := (⟨0, 0, 0, c4.wordsV ((c.byteV - 1) / 2)⟩ : S43)) GR.out FT.out (by have := HP.out.bd; have := LT.out; omega) R1.out (HL1.out.b.trans (B1.out.mono (by have := HL1.out.g; omega))) G1.out V1.out)
            obtain ⟨k', hk'⟩ : ∃ k', k = k' + 1 := ⟨k - 1, by have := HLE.out; have := LT.out; omega⟩
            have HP2 := HPG.out
            rw [hk'] at HP2
            have HPN := Aside0.mk (parts_step HP2 NX.out HE.out HE9.out.symm)
            have HLN := Aside0.mk (show (c4.wordsS ((c.byteV - 1) / 2)).xs.length ≤ k' by have := HLE.out; have := LT.out; omega)
            have MS := Aside0.mk (show leftQ y3 g < leftQ wr g by rw [leftQ_at HN.out.cur, HMW.out]; exact LT.out)
            clear HP2 hk' HPG HLE HP H
            go_roundw
            case rel => exact ⟨(c4.wordsS ((c.byteV - 1) / 2)), s, os ++ [(⟨0, 0, 0, c4.wordsV ((c.byteV - 1) / 2)⟩ : S43)], _, _, k', rfl, HN, HLN, SM, HPN⟩
            case measure => exact MS.out
        · have K1 := Aside0.mk k1
          have e1 : (c.byteV % 2 == 1) = false := by simpa using k1
          go_upto_region 8 with (first | (go_at_call 45; obtain ⟨lc, hc⟩ := Cu.byteV_bd (HQ.good H.out); (with_reducible refine (HQ.byte H.out).mono ?_); rintro en x2 ⟨rfl, hp_⟩; obtain ⟨c1, ec_⟩ : ∃ z, z = c.byteS := ⟨_, rfl⟩; rw [← ec_] at hp_; have Ec1 := Aside0.mk ec_; clear ec_; have n0_ := Aside0.mk hp_; clear H hp_; have H := n0_; clear n0_))
          go_upto_region 9 with (first | (go_at_call 46; (with_reducible refine (HQ.need H.out (false) 5).mono ?_); rintro en x3 ⟨rfl, hp_⟩; obtain ⟨c2, ec_⟩ : ∃ z, z = c1.need (false) 5 := ⟨_, rfl⟩; rw [← ec_] at hp_; have Ec2 := Aside0.mk ec_; clear ec_; have n0_ := Aside0.mk hp_; clear H hp_; have H := n0_; clear n0_))
          go_upto_region 10 with (first | (go_at_call 45; obtain ⟨lc2, hc2⟩ := Cu.byteV_bd (HQ.good H.out); (with_reducible refine (HQ.byte H.out).mono ?_); rintro en x4 ⟨rfl, hp_⟩; obtain ⟨c3, ec_⟩ : ∃ z, z = c2.byteS := ⟨_, rfl⟩; rw [← ec_] at hp_; have Ec3 := Aside0.mk ec_; clear ec_; have n0_ := Aside0.mk hp_; clear H hp_; have H := n0_; clear n0_))
          go_upto_region 11 with (first | (go_at_call 46; (with_reducible refine (HQ.need H.out (c2.byteV == 6) 9).mono ?_); rintro en x5 ⟨rfl, hp_⟩; obtain ⟨c4, ec_⟩ : ∃ z, z = c3.need (c2.byteV == 6) 9 := ⟨_, rfl⟩; rw [← ec_] at hp_; have Ec4 := Aside0.mk ec_; clear ec_; have n0_ := Aside0.mk hp_; clear H hp_; have H := n0_; clear n0_))
          have HE8 : Aside0 (rd1 s c = (c4.wordsS (Int.tdiv (c.byteV - 1) 2), ⟨0, 0, 0, c4.wordsV (Int.tdiv (c.byteV - 1) 2)⟩, s)) := ⟨by
            have ek : (decide (c.byteV % 2 = 1) && decide (3 ≤ c.byteV) && decide (c.byteV ≤ (c1.xs.length : Int))) = (false) := by simp [K1.out]
            show ((told c).1, (told c).2, s) = _
            simp only [told]
            rw [← Ec1.out, ek, ← Ec2.out, ← Ec3.out, ← Ec4.out]⟩
          go_upto_region 18 with (first | (go_at_call 47; (with_reducible refine (HQ.words H.out (Int.tdiv (c.byteV - 1) 2)).mono ?_); rintro en x6 ⟨A5, n5, rfl, hz_, hr_, hp_⟩; have RZ := Aside0.mk hz_; have RR := Aside0.mk hr_; have RU := Aside0.mk H.out; have k3 := (HQ.at hp_ 3).1; have g3 := (HQ.at hp_ 3).2; have n0_ := Aside0.mk hp_; clear H hp_; have H := n0_; clear n0_; clear hz_ hr_))
          have n0_ := Aside0.mk (HQ.put3 H.out (.slice A5 (c4.wordsV (Int.tdiv (c.byteV - 1) 2)).length n5))
          clear H k3 g3
          have H := n0_
          clear n0_
          have HE9 : Aside0 (rd1 s c = ((c4.wordsS (Int.tdiv (c.byteV - 1) 2)), (⟨0, 0, 0, c4.wordsV (Int.tdiv (c.byteV - 1) 2)⟩ : S43), s)) := ⟨HE8.out⟩
          have LT2 := LT.out
          have GR2 := GR.out
          have SM2 := SM.out
          rw [HE9.out] at LT2 GR2 SM2
          clear LT GR SM
          have LT := Aside0.mk (show (c4.wordsS (Int.tdiv (c.byteV - 1) 2)).xs.length < c.xs.length from LT2)
          have GR := Aside0.mk GR2
          have SM := Aside0.mk SM2
          clear LT2 GR2 SM2
          have HL1 := Aside0.mk (HP.out.move H.out.up H.out.cur (by have := HP.out.bd; have := LT.out; omega))
          have FT := Aside0.mk (fits_q (r := ⟨0, 0, 0, A5, (c4.wordsV (Int.tdiv (c.byteV - 1) 2)).length, n5⟩) (x := ⟨0, 0, 0, c4.wordsV (Int.tdiv (c.byteV - 1) 2)⟩) rfl rfl rfl rfl RZ.out HP.out RU.out.up.kept.1 RR.out ((Kept.refl x6 (fun k => k = b)).setCell (p := ⟨b, 3, none⟩) (.inl rfl) (.slice A5 (c4.wordsV (Int.tdiv (c.byteV - 1) 2)).length n5)) (blk_lt RU.out.h2))
          obtain ⟨r_, er_⟩ : ∃ z : RawR, z = ⟨0, 0, 0, A5, (c4.wordsV (Int.tdiv (c.byteV - 1) 2)).length, n5⟩ := ⟨_, rfl⟩
          have ER := Aside0.mk er_
          have H2 := Aside0.mk (show HQ _ g w0.heap.size b _ (c4.wordsS (Int.tdiv (c.byteV - 1) 2)) #[Value.int .u16 r_.f0, .int .u16 r_.f1, .int .u16 r_.f2, .slice r_.A r_.n r_.c] from by rw [er_]; exact H.out)
          rw [← er_] at FT
          clear H er_
          have H := H2
          clear H2
          go_wp2_with (first | ((with_reducible refine gate_dst (N := 95) rfl ?_); refine wpList_load_row rfl 43 (.tmp 11) rfl b rfl 43 _ (0, 0) _ H.out.h2 Try.underlying43 rfl (rec_info rfl) ?_) | ((with_reducible refine gate_dst (N := 97) rfl ?_); refine Kd.R_append kRawR B rfl (.tmp 94) (.tmp 96) 27 43 (.agg recZ) 32 rfl Try.underlying27 (by kernel_rfl) rfl (by decide) (by decide) v raws r_ [Value.int .u16 r_.f0, .int .u16 r_.f1, .int .u16 r_.f2, .slice r_.A r_.n r_.c] (fun k => B ≤ k) (fun _ => False) rfl (by first | rfl | (rw [World.size_setCell]; rfl)) rfl (fun _ h => h.elim) (fun k hk => Nat.le_trans HL1.out.g.2.2 hk) HL1.out.row (Below.refl _ _) HL1.out.g.2.2 (by have := HL1.out.few; omega) ?_; intro v1 y3 r1_ hb1 g1_ hv1_; have R1 := Aside0.mk r1_; have G1 := Aside0.mk g1_; have V1 := Aside0.mk hv1_; have B1 := Aside0.mk hb1; obtain ⟨A9, n9, e9, _, _⟩ := Kd.R_reads r1_; obtain ⟨N9, hN9⟩ : ∃ z, z = (raws ++ [r_]).length := ⟨_, rfl⟩; rw [← hN9] at e9; clear hN9; subst e9; clear r1_ g1_ hv1_ hb1))
          have HN := Aside0.mk (HL1.out.push (o := (⟨0, 0, 0, c4.wordsV (Int.tdiv (c.byteV - 1) 2)⟩ : S43)) GR.out FT.out (by have := HP.out.bd; have := LT.out; omega) R1.out (HL1.out.b.trans (B1.out.mono (by have := HL1.out.g; omega))) G1.out V1.out)
          obtain ⟨k', hk'⟩ : ∃ k', k = k' + 1 := ⟨k - 1, by have := HLE.out; have := LT.out; omega⟩
          have HP2 := HPG.out
          rw [hk'] at HP2
          have HPN := Aside0.mk (parts_step HP2 NX.out HE.out HE9.out.symm)
          have HLN := Aside0.mk (show (c4.wordsS (Int.tdiv (c.byteV - 1) 2)).xs.length ≤ k' by have := HLE.out; have := LT.out; omega)
          have MS := Aside0.mk (show leftQ y3 g < leftQ wr g by rw [leftQ_at HN.out.cur, HMW.out]; exact LT.out)
          clear HP2 hk' HPG HLE HP H
          go_roundw
          case rel => exact ⟨(c4.wordsS (Int.tdiv (c.byteV - 1) 2)), s, os ++ [(⟨0, 0, 0, c4.wordsV (Int.tdiv (c.byteV - 1) 2)⟩ : S43)], _, _, k', rfl, HN, HLN, SM, HPN⟩
          case measure => exact MS.out
      · have g1 : (c.e == 0) = false := by simpa using he
        have HX := Aside0.mk (parts_stop HPG.out (.inr he))
        clear he
        go_upto_region 19 with (first | (go_at_call 44; (with_reducible refine (q_left HP.out.cur).mono ?_); rintro en x1 ⟨rfl, hp_, hu_⟩; have n0_ := Aside0.mk (HP.out.move hu_ hp_ HP.out.bd); clear HP hp_ hu_ ke; have HP := n0_; clear n0_; have ke : World.cell? _ ⟨g, 3, none⟩ = some (Value.int .i64 c.e) := (QAt.cells HP.out.cur).2))
        by_cases h2 : c.e = 2
        · have g2 : (c.e == 2) = true := by rw [h2]; rfl
          have g0 : (2 : Int) ≠ 0 := by decide
          have H2 := Aside0.mk h2
          clear h2
          go_wp2
          exact bodyPost_ret (results_tmp2 rfl _ _ _) rfl (PartsQ.bad (by rw [← HX.out.1, H2.out]; rfl) HP.out.b (by rw [← HX.out.1, H2.out]; decide))
        · have g2 : (c.e == 2) = false := by simpa using h2
          have H2 := Aside0.mk h2
          clear h2
          go_upto_region 21 with (fail)
          have n0_ := Aside0.mk HP.out.drew
          have ke1 : World.cell? _ ⟨g, 3, none⟩ = some (Value.int .i64 c.e) := (QAt.cells n0_.out.cur).2
          clear HP ke
          have HP := n0_
          clear n0_
          refine start_ (n := 7) (S := fun w' => w'.cell? ⟨g, 3, none⟩ = some (.int .i64 c.e)) (ds := []) (bm 7 0) (by as_aux_lemma => kernel_rfl) rfl (by as_aux_lemma => kernel_rfl) (ke1) (fun hHeld => ?_)
          refine with_tabW pt.tab21 pt.bits21 (fun HT_ HW_ => ?_)
          refine pure_ (i := 0) (N := some 103) (v := ?_) (a' := ?_) (bm 7 1) rfl rfl (any_of HT_.out (by as_aux_lemma => kernel_rfl)) (fun _ _ _ h => h) (Or.inl ⟨by rfl, ?_⟩) ?_ ?_
          rotate_left
          · intro w'
            go_simp
            with_reducible rfl
          rotate_left
          · simp only [Act.put, List.setIfInBounds_toArray, List.set_cons_zero, List.set_cons_succ, i64_w, i32_w]
            rfl
          refine pure_ (i := 1) (N := some 104) (v := ?_) (a' := ?_) (bm 7 3) rfl rfl (any_of HT_.out (by as_aux_lemma => kernel_rfl)) (fun _ _ _ h => h) (Or.inl ⟨by rfl, ?_⟩) ?_ ?_
          rotate_left
          · intro w'
            go_simp
            with_reducible rfl
          rotate_left
          · simp only [Act.put, List.setIfInBounds_toArray, List.set_cons_zero, List.set_cons_succ, i64_w, i32_w]
            rfl
          refine pure_ (i := 2) (N := some 105) (v := ?_) (a' := ?_) (bm 7 7) rfl rfl (any_of HT_.out (by as_aux_lemma => kernel_rfl)) (fun _ _ _ h => h) (Or.inl ⟨by rfl, ?_⟩) ?_ ?_
          rotate_left
          · intro w'
            go_simp
            with_reducible rfl
          rotate_left
          · simp only [Act.put, List.setIfInBounds_toArray, List.set_cons_zero, List.set_cons_succ, i64_w, i32_w]
            rfl
          refine pure_ (i := 3) (N := some 106) (v := ?_) (a' := ?_) (bm 7 15) rfl rfl (any_of HT_.out (by as_aux_lemma => kernel_rfl)) (fun _ _ _ h => h) (Or.inl ⟨by rfl, ?_⟩) ?_ ?_
          rotate_left
          · intro w'
            go_simp
            with_reducible rfl
          rotate_left
          · simp only [Act.put, List.setIfInBounds_toArray, List.set_cons_zero, List.set_cons_succ, i64_w, i32_w]
            rfl
          refine pure_ (i := 5) (N := some 6) (v := ?_) (a' := ?_) (bm 7 47) rfl rfl (any_of HT_.out (by as_aux_lemma => kernel_rfl)) (fun _ _ _ h => h) (Or.inl ⟨by rfl, ?_⟩) ?_ ?_
          rotate_left
          · intro w'
            go_simp
            with_reducible rfl
          rotate_left
          · simp only [Act.put, List.setIfInBounds_toArray, List.set_cons_zero, List.set_cons_succ, i64_w, i32_w]
            rfl
          refine take_ (i := 4) (N := some 107) (v := ?_) (a' := ?_) (bm 7 63) rfl rfl (take_ofW HT_.out HW_.out (by as_aux_lemma => kernel_rfl)) (fun _ _ _ h => h) (Or.inl ⟨by rfl, ?_⟩) hHeld ?_ ?_
          rotate_left
          · intro w' s0
            go_simp
            with_reducible rfl
          rotate_left
          · simp only [Act.put, List.setIfInBounds_toArray, List.set_cons_zero, List.set_cons_succ, i64_w, i32_w]
            rfl
          refine pure_ (i := 6) (N := some 7) (v := ?_) (a' := ?_) (bm 7 127) rfl rfl (any_of HT_.out (by as_aux_lemma => kernel_rfl)) (fun _ _ _ h => h) (Or.inl ⟨by rfl, ?_⟩) ?_ ?_
          rotate_left
          · intro w'
            go_simp
            with_reducible rfl
          rotate_left
          · simp only [Act.put, List.setIfInBounds_toArray, List.set_cons_zero, List.set_cons_succ, i64_w, i32_w]
            rfl
          refine done_ (done_of HT_.out (by as_aux_lemma => kernel_rfl)) ?_
          go_wp2
          refine bodyPost_ret (results_tmp2 rfl _ _ _) rfl ?_
          simp only [Array.getD_eq_getD_getElem?, List.getElem?_toArray, List.getElem?_cons_succ, List.getElem?_cons_zero, Option.getD_some]
          exact LQ.done HP.out HX.out H2.out
theorem rparts2 {A : Option Addr} {n : Nat} {l : List Int} {w0 : World} (hr : Kd.C (Kd.int .u8) w0 A l.length l) (hc : l.length ≤ n) (hs : l.length ≤ 1000000) (hb : isBytes l) {dir : Int} :
    Calls Try.prog 28 #[.int .i64 dir, .int .u8 21, .slice A l.length n] w0 (PartsQ rd2 l w0) := by
  have HR := Aside0.mk hr
  have HC := Aside0.mk hc
  have HS := Aside0.mk hs
  have HBB := Aside0.mk hb
  clear hr hc hs hb
  go_enter Try.func28, Try.ntmps28
  go_upto_region 2 with (first | ((with_reducible refine gate_dst (N := 16) rfl ?_); refine QS.ev_cur rfl rfl rfl ?_; intro g w2 q1_ q2_; have HP := Aside0.mk (LQ.first HR.out HC.out HS.out HBB.out q1_ q2_); clear q1_ q2_))
  clear HR HC HBB
  obtain ⟨B, eB_⟩ : ∃ z, z = w2.heap.size := ⟨_, rfl⟩
  rw [← eB_] at HP
  clear eB_
  go_wp2
  go_loopw [9] (fun v_ wr => ∃ (c : Cu) (s : Int) (os : List S43) (raws : List RawR) (v : Value) (k : Nat), v = v_ ∧ Aside0 (LQ w0 B g wr c os raws v) ∧ Aside0 (c.xs.length ≤ k) ∧ Aside0 (c.e = 0 → 0 ≤ s ∧ s ≤ 245) ∧ Aside0 (partsG rd2 l.length 0 (cu l) = ((partsG rd2 k s c).1, os ++ (partsG rd2 k s c).2))) (fun _ wr => leftQ wr g)
  case atStart => exact ⟨cu l, 0, [], [], _, l.length, rfl, HP, ⟨Nat.le_refl _⟩, ⟨fun _ => ⟨by decide, by decide⟩⟩, ⟨by simp⟩⟩
  case round =>
    clear HP
    obtain ⟨c, s, os, raws, v, k, rfl, HP, HLE, HSB, HPG⟩ := hrel
    have HMW := Aside0.mk (leftQ_at HP.out.cur)
    have ke : World.cell? _ ⟨g, 3, none⟩ = some (Value.int .i64 c.e) := (QAt.cells HP.out.cur).2
    by_cases hx : c.xs = []
    · have hl : c.xs.length = 0 := by rw [hx]; rfl
      have HX := Aside0.mk (parts_stop HPG.out (.inl hx))
      clear hx
      go_upto_region 19 with (first | (go_at_call 44; (with_reducible refine (q_left HP.out.cur).mono ?_); rintro en x1 ⟨rfl, hp_, hu_⟩; rw [hl]; have n0_ := Aside0.mk (HP.out.move hu_ hp_ HP.out.bd); clear HP hp_ hu_ ke; have HP := n0_; clear n0_; have ke : World.cell? _ ⟨g, 3, none⟩ = some (Value.int .i64 c.e) := (QAt.cells HP.out.cur).2))
      by_cases h2 : c.e = 2
      · have g2 : (c.e == 2) = true := by rw [h2]; rfl
        have g0 : (2 : Int) ≠ 0 := by decide
        have H2 := Aside0.mk h2
        clear h2
        go_wp2
        exact bodyPost_ret (results_tmp2 rfl _ _ _) rfl (PartsQ.bad (by rw [← HX.out.1, H2.out]; rfl) HP.out.b (by rw [← HX.out.1, H2.out]; decide))
      · have g2 : (c.e == 2) = false := by simpa using h2
        have H2 := Aside0.mk h2
        clear h2
        go_upto_region 21 with (fail)
        have n0_ := Aside0.mk HP.out.drew
        have ke1 : World.cell? _ ⟨g, 3, none⟩ = some (Value.int .i64 c.e) := (QAt.cells n0_.out.cur).2
        clear HP ke
        have HP := n0_
        clear n0_
        refine start_ (n := 7) (S := fun w' => w'.cell? ⟨g, 3, none⟩ = some (.int .i64 c.e)) (ds := []) (bm 7 0) (by as_aux_lemma => kernel_rfl) rfl (by as_aux_lemma => kernel_rfl) (ke1) (fun hHeld => ?_)
        refine with_tabW pt.tab21 pt.bits21 (fun HT_ HW_ => ?_)
        refine pure_ (i := 0) (N := some 103) (v := ?_) (a' := ?_) (bm 7 1) rfl rfl (any_of HT_.out (by as_aux_lemma => kernel_rfl)) (fun _ _ _ h => h) (Or.inl ⟨by rfl, ?_⟩) ?_ ?_
        rotate_left
        · intro w'
          go_simp
          with_reducible rfl
        rotate_left
        · simp only [Act.put, List.setIfInBounds_toArray, List.set_cons_zero, List.set_cons_succ, i64_w, i32_w]
          rfl
        refine pure_ (i := 1) (N := some 104) (v := ?_) (a' := ?_) (bm 7 3) rfl rfl (any_of HT_.out (by as_aux_lemma => kernel_rfl)) (fun _ _ _ h => h) (Or.inl ⟨by rfl, ?_⟩) ?_ ?_
        rotate_left
        · intro w'
          go_simp
          with_reducible rfl
        rotate_left
        · simp only [Act.put, List.setIfInBounds_toArray, List.set_cons_zero, List.set_cons_succ, i64_w, i32_w]
          rfl
        refine pure_ (i := 2) (N := some 105) (v := ?_) (a' := ?_) (bm 7 7) rfl rfl (any_of HT_.out (by as_aux_lemma => kernel_rfl)) (fun _ _ _ h => h) (Or.inl ⟨by rfl, ?_⟩) ?_ ?_
        rotate_left
        · intro w'
          go_simp
          with_reducible rfl
        rotate_left
        · simp only [Act.put, List.setIfInBounds_toArray, List.set_cons_zero, List.set_cons_succ, i64_w, i32_w]
          rfl
        refine pure_ (i := 3) (N := some 106) (v := ?_) (a' := ?_) (bm 7 15) rfl rfl (any_of HT_.out (by as_aux_lemma => kernel_rfl)) (fun _ _ _ h => h) (Or.inl ⟨by rfl, ?_⟩) ?_ ?_
        rotate_left
        · intro w'
          go_simp
          with_reducible rfl
        rotate_left
        · simp only [Act.put, List.setIfInBounds_toArray, List.set_cons_zero, List.set_cons_succ, i64_w, i32_w]
          rfl
        refine pure_ (i := 5) (N := some 6) (v := ?_) (a' := ?_) (bm 7 47) rfl rfl (any_of HT_.out (by as_aux_lemma => kernel_rfl)) (fun _ _ _ h => h) (Or.inl ⟨by rfl, ?_⟩) ?_ ?_
        rotate_left
        · intro w'
          go_simp
          with_reducible rfl
        rotate_left
        · simp only [Act.put, List.setIfInBounds_toArray, List.set_cons_zero, List.set_cons_succ, i64_w, i32_w]
          rfl
        refine take_ (i := 4) (N := some 107) (v := ?_) (a' := ?_) (bm 7 63) rfl rfl (take_ofW HT_.out HW_.out (by as_aux_lemma => kernel_rfl)) (fun _ _ _ h => h) (Or.inl ⟨by rfl, ?_⟩) hHeld ?_ ?_
        rotate_left
        · intro w' s0
          go_simp
          with_reducible rfl
        rotate_left
        · simp only [Act.put, List.setIfInBounds_toArray, List.set_cons_zero, List.set_cons_succ, i64_w, i32_w]
          rfl
        refine pure_ (i := 6) (N := some 7) (v := ?_) (a' := ?_) (bm 7 127) rfl rfl (any_of HT_.out (by as_aux_lemma => kernel_rfl)) (fun _ _ _ h => h) (Or.inl ⟨by rfl, ?_⟩) ?_ ?_
        rotate_left
        · intro w'
          go_simp
          with_reducible rfl
        rotate_left
        · simp only [Act.put, List.setIfInBounds_toArray, List.set_cons_zero, List.set_cons_succ, i64_w, i32_w]
          rfl
        refine done_ (done_of HT_.out (by as_aux_lemma => kernel_rfl)) ?_
        go_wp2
        refine bodyPost_ret (results_tmp2 rfl _ _ _) rfl ?_
        simp only [Array.getD_eq_getD_getElem?, List.getElem?_toArray, List.getElem?_cons_succ, List.getElem?_cons_zero, Option.getD_some]
        exact LQ.done HP.out HX.out H2.out
    · have hl : 0 < (c.xs.length : Int) := by have := List.length_pos_iff.2 hx; omega
      have NX := Aside0.mk hx
      clear hx
      by_cases he : c.e = 0
      · have g1 : (c.e == 0) = true := by rw [he]; rfl
        have HE := Aside0.mk he
        clear he
        go_upto_region 5 with (first | (go_at_call 44; (with_reducible refine (q_left HP.out.cur).mono ?_); rintro en x1 ⟨rfl, hp_, hu_⟩; have n0_ := Aside0.mk (HP.out.move hu_ hp_ HP.out.bd); clear HP hp_ hu_ ke; have HP := n0_; clear n0_; have ke : World.cell? _ ⟨g, 3, none⟩ = some (Value.int .i64 c.e) := (QAt.cells HP.out.cur).2))
        have hlt_ := rdok2.lt s c (QAt.good HP.out.cur) NX.out
        have hgr_ := rdok2.gd s c (QAt.good HP.out.cur)
        have hsm_ := rdok2.sm s c (QAt.good HP.out.cur) (HSB.out HE.out).1 (HSB.out HE.out).2
        have LT := Aside0.mk hlt_
        have GR := Aside0.mk hgr_
        have SM := Aside0.mk hsm_
        clear hlt_ hgr_ hsm_ ke
        go_upto_region 6 with (first | ((with_reducible refine gate_dst (N := 11) rfl ?_); refine ev_rec rfl rfl ?_; intro b w1 hg_ h1_ h2_; have H := Aside0.mk (HQ.start HP.out.cur h2_ hg_ h1_); have GB := Aside0.mk hg_; clear hg_ h1_ h2_) | ((with_reducible refine gate_op (u := .store 43 (.tmp 11) (.tmp 27)) rfl ?_); refine Same.wpList_store_row 43 (.tmp 11) (.tmp 27) rfl rfl rfl rfl H.out.h2 rfl (rec_info rfl) recs_one ?_; intro w3 h3_ h4_; have m0_ := Aside0.mk (HQ.row H.out h3_ h4_); clear H h3_ h4_; have H := m0_; clear m0_))
        obtain ⟨⟨c1, f0, f1, f2⟩, eh_⟩ : ∃ z, z = head c := ⟨_, rfl⟩
        have HD := Aside0.mk eh_
        have hb_ := head_bd (QAt.good HP.out.cur)
        rw [← eh_] at hb_
        obtain ⟨l2, h2⟩ : 0 ≤ f2 ∧ f2 < 65536 := hb_
        clear eh_
        go_upto_region 13 with (first | (go_at_call 48; (with_reducible refine (rhead_let HD.out H.out.cur).mono ?_); rintro en x2 ⟨rfl, hp_, hu_⟩; have m0_ := Aside0.mk (H.out.stp hp_ hu_); clear H hp_ hu_; have H := m0_; clear m0_) | ((with_reducible refine gate_op (u := .store 43 (.tmp 11) (.tmp 65)) rfl ?_); refine Same.wpList_store_row 43 (.tmp 11) (.tmp 65) rfl rfl rfl rfl H.out.h2 rfl (rec_info rfl) recs_one ?_; intro x4 h3_ h4_; have m0_ := Aside0.mk (HQ.row H.out h3_ h4_); clear H h3_ h4_; have H := m0_; clear m0_))
        go_upto_region 14 with (fail)
        have n0_ := Aside0.mk (HQ.drew H.out)
        clear H
        have H := n0_
        clear n0_
        have wk := wrap64_id (x := f2) (by omega) (by omega)
        have wkb : IntKind.i64.wrap (f2) = f2 := by rw [i64_w]; exact wk
        have wk2 := wrap64_id (x := 2 * f2) (by omega) (by omega)
        have wk2b : IntKind.i64.wrap (2 * f2) = 2 * f2 := by rw [i64_w]; exact wk2
        refine start_ (n := 9) (S := fun w' => w'.cell? ⟨b, 2, none⟩ = some (.int .u16 f2)) (ds := []) (bm 9 0) (by as_aux_lemma => kernel_rfl) rfl (by as_aux_lemma => kernel_rfl) ((show World.cell? _ _ = some (Value.int .u16 f2) from (HQ.at H.out 2).1)) (fun hHeld => ?_)
        refine with_tabW pt.tab14 pt.bits14 (fun HT_ HW_ => ?_)
        refine pure_ (i := 0) (N := some 68) (v := ?_) (a' := ?_) (bm 9 1) rfl rfl (any_of HT_.out (by as_aux_lemma => kernel_rfl)) (fun _ _ _ h => h) (Or.inl ⟨by rfl, ?_⟩) ?_ ?_
        rotate_left
        · intro w'
          go_simp
          with_reducible rfl
        rotate_left
        · simp only [Act.put, List.setIfInBounds_toArray, List.set_cons_zero, List.set_cons_succ, i64_w, i32_w]
          rfl
        refine pure_ (i := 1) (N := some 69) (v := ?_) (a' := ?_) (bm 9 3) rfl rfl (any_of HT_.out (by as_aux_lemma => kernel_rfl)) (fun _ _ _ h => h) (Or.inl ⟨by rfl, ?_⟩) ?_ ?_
        rotate_left
        · intro w'
          go_simp
          with_reducible rfl
        rotate_left
        · simp only [Act.put, List.setIfInBounds_toArray, List.set_cons_zero, List.set_cons_succ, i64_w, i32_w]
          rfl
        refine pure_ (i := 5) (N := some 73) (v := ?_) (a' := ?_) (bm 9 35) rfl rfl (any_of HT_.out (by as_aux_lemma => kernel_rfl)) (fun _ _ _ h => h) (Or.inl ⟨by rfl, ?_⟩) ?_ ?_
        rotate_left
        · intro w'
          go_simp
          with_reducible rfl
        rotate_left
        · simp only [Act.put, List.setIfInBounds_toArray, List.set_cons_zero, List.set_cons_succ, i64_w, i32_w]
          rfl
        refine take_ (i := 2) (N := some 70) (v := ?_) (a' := ?_) (bm 9 39) rfl rfl (take_ofW HT_.out HW_.out (by as_aux_lemma => kernel_rfl)) (fun _ _ _ h => h) (Or.inl ⟨by rfl, ?_⟩) hHeld ?_ ?_
        rotate_left
        · intro w' s0
          go_simp
          with_reducible rfl
        rotate_left
        · simp only [Act.put, List.setIfInBounds_toArray, List.set_cons_zero, List.set_cons_succ, i64_w, i32_w]
          rfl
        refine pure_ (i := 3) (N := some 71) (v := ?_) (a' := ?_) (bm 9 47) rfl rfl (any_of HT_.out (by as_aux_lemma => kernel_rfl)) (fun _ _ _ h => h) (Or.inl ⟨by rfl, ?_⟩) ?_ ?_
        rotate_left
        · intro w'
          go_simp
          with_reducible rfl
        rotate_left
        · simp only [Act.put, List.setIfInBounds_toArray, List.set_cons_zero, List.set_cons_succ, i64_w, i32_w]
          rfl
        refine pure_ (i := 4) (N := some 72) (v := ?_) (a' := ?_) (bm 9 63) rfl rfl (any_of HT_.out (by as_aux_lemma => kernel_rfl)) (fun _ _ _ h => h) (Or.inl ⟨by rfl, ?_⟩) ?_ ?_
        rotate_left
        · intro w'
          go_simp
          with_reducible rfl
        rotate_left
        · simp only [Act.put, List.setIfInBounds_toArray, List.set_cons_zero, List.set_cons_succ, i64_w, i32_w]
          rfl
        refine one_ (i := 6) (N := some 74) (bm 9 127) rfl rfl (one_of HT_.out (by as_aux_lemma => kernel_rfl)) (by as_aux_lemma => decide) (fun K hK => ?_)
        refine goes_ Try.func44 (by as_aux_lemma => kernel_rfl) rfl #[.pointer (some ⟨g, 0, none⟩)] (by rfl) rfl rfl (by simp only [List.map_toArray, List.map_cons, List.map_nil]; rfl) ?_
        with_reducible refine (HQ.left H.out).mono ?_
        rintro en y1 ⟨rfl, hp_⟩
        have n0_ := Aside0.mk hp_
        clear H hp_
        have H := n0_
        clear n0_
        refine ⟨_, rfl, ?_⟩
        refine hK.out _ _ ((show World.cell? _ _ = some (Value.int .u16 f2) from (HQ.at H.out 2).1)) (fun hHeld => ?_)
        clear hK K
        refine norm_ (a' := ?_) ?_ ?_
        rotate_left
        · show Act.put _ (some 74) _ = _
          simp only [Act.put, List.setIfInBounds_toArray, List.set_cons_zero, List.set_cons_succ, i64_w, i32_w]
          rfl
        refine pure_ (i := 7) (N := some 75) (v := ?_) (a' := ?_) (bm 9 255) rfl rfl (any_of HT_.out (by as_aux_lemma => kernel_rfl)) (fun _ _ _ h => h) (Or.inl ⟨by rfl, ?_⟩) ?_ ?_
        rotate_left
        · intro w'
          go_simp
          with_reducible rfl
        rotate_left
        · simp only [Act.put, List.setIfInBounds_toArray, List.set_cons_zero, List.set_cons_succ, i64_w, i32_w]
          rfl
        refine one_ (i := 8) (N := some 76) (bm 9 511) rfl rfl (one_of HT_.out (by as_aux_lemma => kernel_rfl)) (by as_aux_lemma => decide) (fun K hK => ?_)
        refine goes_ Try.func46 (by as_aux_lemma => kernel_rfl) rfl #[.pointer (some ⟨g, 0, none⟩), .bool (decide (2 * f2 ≤ (c1.xs.length : Int))), .int .i64 5] (by rfl) rfl rfl (by simp only [List.map_toArray, List.map_cons, List.map_nil]; rfl) ?_
        with_reducible refine (HQ.need H.out (decide (2 * f2 ≤ (c1.xs.length : Int))) 5).mono ?_
        rintro en x3 ⟨rfl, hp_⟩
        obtain ⟨c2, ec_⟩ : ∃ z, z = c1.need (decide (2 * f2 ≤ (c1.xs.length : Int))) 5 := ⟨_, rfl⟩
        rw [← ec_] at hp_
        have Ec2 := Aside0.mk ec_
        clear ec_
        have n0_ := Aside0.mk hp_
        clear H hp_
        have H := n0_
        clear n0_
        refine ⟨_, rfl, ?_⟩
        refine hK.out _ _ ((show World.cell? _ _ = some (Value.int .u16 f2) from (HQ.at H.out 2).1)) (fun hHeld => ?_)
        clear hK K
        refine norm_ (a' := ?_) ?_ ?_
        rotate_left
        · show Act.put _ (some 76) _ = _
          simp only [Act.put, List.setIfInBounds_toArray, List.set_cons_zero, List.set_cons_succ, i64_w, i32_w]
          rfl
        refine done_ (done_of HT_.out (by as_aux_lemma => kernel_rfl)) ?_
        have HE8 : Aside0 (rd2 s c = (c2.wordsS f2, ⟨f0, f1, f2, c2.wordsV f2⟩, s)) := ⟨by
          show ((written c).1, (written c).2, s) = _
          simp only [written]
          rw [← HD.out, ← Ec2.out]⟩
        have k2 : World.cell? _ _ = some (Value.int .u16 f2) := (HQ.at H.out 2).1
        go_upto_region 18 with (first | (go_at_call 47; (with_reducible refine (HQ.words H.out (f2)).mono ?_); rintro en x6 ⟨A5, n5, rfl, hz_, hr_, hp_⟩; have RZ := Aside0.mk hz_; have RR := Aside0.mk hr_; have RU := Aside0.mk H.out; have k3 := (HQ.at hp_ 3).1; have g3 := (HQ.at hp_ 3).2; have n0_ := Aside0.mk hp_; clear H hp_; have H := n0_; clear n0_; clear hz_ hr_ k2))
        have n0_ := Aside0.mk (HQ.put3 H.out (.slice A5 (c2.wordsV f2).length n5))
        clear H k3 g3
        have H := n0_
        clear n0_
        have HE9 : Aside0 (rd2 s c = ((c2.wordsS f2), (⟨f0, f1, f2, c2.wordsV f2⟩ : S43), s)) := ⟨HE8.out⟩
        have LT2 := LT.out
        have GR2 := GR.out
        have SM2 := SM.out
        rw [HE9.out] at LT2 GR2 SM2
        clear LT GR SM
        have LT := Aside0.mk (show (c2.wordsS f2).xs.length < c.xs.length from LT2)
        have GR := Aside0.mk GR2
        have SM := Aside0.mk SM2
        clear LT2 GR2 SM2
        have HL1 := Aside0.mk (HP.out.move H.out.up H.out.cur (by have := HP.out.bd; have := LT.out; omega))
        have FT := Aside0.mk (fits_q (r := ⟨f0, f1, f2, A5, (c2.wordsV f2).length, n5⟩) (x := ⟨f0, f1, f2, c2.wordsV f2⟩) rfl rfl rfl rfl RZ.out HP.out RU.out.up.kept.1 RR.out ((Kept.refl x6 (fun k => k = b)).setCell (p := ⟨b, 3, none⟩) (.inl rfl) (.slice A5 (c2.wordsV f2).length n5)) (blk_lt RU.out.h2))
        obtain ⟨r_, er_⟩ : ∃ z : RawR, z = ⟨f0, f1, f2, A5, (c2.wordsV f2).length, n5⟩ := ⟨_, rfl⟩
        have ER := Aside0.mk er_
        have H2 := Aside0.mk (show HQ _ g w0.heap.size b _ (c2.wordsS f2) #[Value.int .u16 r_.f0, .int .u16 r_.f1, .int .u16 r_.f2, .slice r_.A r_.n r_.c] from by rw [er_]; exact H.out)
        rw [← er_] at FT
        clear H er_
        have H := H2
        clear H2
        go_wp2_with (first | ((with_reducible refine gate_dst (N := 95) rfl ?_); refine wpList_load_row rfl 43 (.tmp 11) rfl b rfl 43 _ (0, 0) _ H.out.h2 Try.underlying43 rfl (rec_info rfl) ?_) | ((with_reducible refine gate_dst (N := 97) rfl ?_); refine Kd.R_append kRawR B rfl (.tmp 94) (.tmp 96) 27 43 (.agg recZ) 32 rfl Try.underlying27 (by kernel_rfl) rfl (by decide) (by decide) v raws r_ [Value.int .u16 r_.f0, .int .u16 r_.f1, .int .u16 r_.f2, .slice r_.A r_.n r_.c] (fun k => B ≤ k) (fun _ => False) rfl (by first | rfl | (rw [World.size_setCell]; rfl)) rfl (fun _ h => h.elim) (fun k hk => Nat.le_trans HL1.out.g.2.2 hk) HL1.out.row (Below.refl _ _) HL1.out.g.2.2 (by have := HL1.out.few; omega) ?_; intro v1 y3 r1_ hb1 g1_ hv1_; have R1 := Aside0.mk r1_; have G1 := Aside0.mk g1_; have V1 := Aside0.mk hv1_; have B1 := Aside0.mk hb1; obtain ⟨A9, n9, e9, _, _⟩ := Kd.R_reads r1_; obtain ⟨N9, hN9⟩ : ∃ z, z = (raws ++ [r_]).length := ⟨_, rfl⟩; rw [← hN9] at e9; clear hN9; subst e9; clear r1_ g1_ hv1_ hb1))
        have HN := Aside0.mk (HL1.out.push (o := (⟨f0, f1, f2, c2.wordsV f2⟩ : S43)) GR.out FT.out (by have := HP.out.bd; have := LT.out; omega) R1.out (HL1.out.b.trans (B1.out.mono (by have := HL1.out.g; omega))) G1.out V1.out)
        obtain ⟨k', hk'⟩ : ∃ k', k = k' + 1 := ⟨k - 1, by have := HLE.out; have := LT.out; omega⟩
        have HP2 := HPG.out
        rw [hk'] at HP2
        have HPN := Aside0.mk (parts_step HP2 NX.out HE.out HE9.out.symm)
        have HLN := Aside0.mk (show (c2.wordsS f2).xs.length ≤ k' by have := HLE.out; have := LT.out; omega)
        have MS := Aside0.mk (show leftQ y3 g < leftQ wr g by rw [leftQ_at HN.out.cur, HMW.out]; exact LT.out)
        clear HP2 hk' HPG HLE HP H
        go_roundw
        case rel => exact ⟨(c2.wordsS f2), s, os ++ [(⟨f0, f1, f2, c2.wordsV f2⟩ : S43)], _, _, k', rfl, HN, HLN, SM, HPN⟩
        case measure => exact MS.out
      · have g1 : (c.e == 0) = false := by simpa using he
        have HX := Aside0.mk (parts_stop HPG.out (.inr he))
        clear he
        go_upto_region 19 with (first | (go_at_call 44; (with_reducible refine (q_left HP.out.cur).mono ?_); rintro en x1 ⟨rfl, hp_, hu_⟩; have n0_ := Aside0.mk (HP.out.move hu_ hp_ HP.out.bd); clear HP hp_ hu_ ke; have HP := n0_; clear n0_; have ke : World.cell? _ ⟨g, 3, none⟩ = some (Value.int .i64 c.e) := (QAt.cells HP.out.cur).2))
        by_cases h2 : c.e = 2
        · have g2 : (c.e == 2) = true := by rw [h2]; rfl
          have g0 : (2 : Int) ≠ 0 := by decide
          have H2 := Aside0.mk h2
          clear h2
          go_wp2
          exact bodyPost_ret (results_tmp2 rfl _ _ _) rfl (PartsQ.bad (by rw [← HX.out.1, H2.out]; rfl) HP.out.b (by rw [← HX.out.1, H2.out]; decide))
        · have g2 : (c.e == 2) = false := by simpa using h2
          have H2 := Aside0.mk h2
          clear h2
          go_upto_region 21 with (fail)
          have n0_ := Aside0.mk HP.out.drew
          have ke1 : World.cell? _ ⟨g, 3, none⟩ = some (Value.int .i64 c.e) := (QAt.cells n0_.out.cur).2
          clear HP ke
          have HP := n0_
          clear n0_
          refine start_ (n := 7) (S := fun w' => w'.cell? ⟨g, 3, none⟩ = some (.int .i64 c.e)) (ds := []) (bm 7 0) (by as_aux_lemma => kernel_rfl) rfl (by as_aux_lemma => kernel_rfl) (ke1) (fun hHeld => ?_)
          refine with_tabW pt.tab21 pt.bits21 (fun HT_ HW_ => ?_)
          refine pure_ (i := 0) (N := some 103) (v := ?_) (a' := ?_) (bm 7 1) rfl rfl (any_of HT_.out (by as_aux_lemma => kernel_rfl)) (fun _ _ _ h => h) (Or.inl ⟨by rfl, ?_⟩) ?_ ?_
          rotate_left
          · intro w'
            go_simp
            with_reducible rfl
          rotate_left
          · simp only [Act.put, List.setIfInBounds_toArray, List.set_cons_zero, List.set_cons_succ, i64_w, i32_w]
            rfl
          refine pure_ (i := 1) (N := some 104) (v := ?_) (a' := ?_) (bm 7 3) rfl rfl (any_of HT_.out (by as_aux_lemma => kernel_rfl)) (fun _ _ _ h => h) (Or.inl ⟨by rfl, ?_⟩) ?_ ?_
          rotate_left
          · intro w'
            go_simp
            with_reducible rfl
          rotate_left
          · simp only [Act.put, List.setIfInBounds_toArray, List.set_cons_zero, List.set_cons_succ, i64_w, i32_w]
            rfl
          refine pure_ (i := 2) (N := some 105) (v := ?_) (a' := ?_) (bm 7 7) rfl rfl (any_of HT_.out (by as_aux_lemma => kernel_rfl)) (fun _ _ _ h => h) (Or.inl ⟨by rfl, ?_⟩) ?_ ?_
          rotate_left
          · intro w'
            go_simp
            with_reducible rfl
          rotate_left
          · simp only [Act.put, List.setIfInBounds_toArray, List.set_cons_zero, List.set_cons_succ, i64_w, i32_w]
            rfl
          refine pure_ (i := 3) (N := some 106) (v := ?_) (a' := ?_) (bm 7 15) rfl rfl (any_of HT_.out (by as_aux_lemma => kernel_rfl)) (fun _ _ _ h => h) (Or.inl ⟨by rfl, ?_⟩) ?_ ?_
          rotate_left
          · intro w'
            go_simp
            with_reducible rfl
          rotate_left
          · simp only [Act.put, List.setIfInBounds_toArray, List.set_cons_zero, List.set_cons_succ, i64_w, i32_w]
            rfl
          refine pure_ (i := 5) (N := some 6) (v := ?_) (a' := ?_) (bm 7 47) rfl rfl (any_of HT_.out (by as_aux_lemma => kernel_rfl)) (fun _ _ _ h => h) (Or.inl ⟨by rfl, ?_⟩) ?_ ?_
          rotate_left
          · intro w'
            go_simp
            with_reducible rfl
          rotate_left
          · simp only [Act.put, List.setIfInBounds_toArray, List.set_cons_zero, List.set_cons_succ, i64_w, i32_w]
            rfl
          refine take_ (i := 4) (N := some 107) (v := ?_) (a' := ?_) (bm 7 63) rfl rfl (take_ofW HT_.out HW_.out (by as_aux_lemma => kernel_rfl)) (fun _ _ _ h => h) (Or.inl ⟨by rfl, ?_⟩) hHeld ?_ ?_
          rotate_left
          · intro w' s0
            go_simp
            with_reducible rfl
          rotate_left
          · simp only [Act.put, List.setIfInBounds_toArray, List.set_cons_zero, List.set_cons_succ, i64_w, i32_w]
            rfl
          refine pure_ (i := 6) (N := some 7) (v := ?_) (a' := ?_) (bm 7 127) rfl rfl (any_of HT_.out (by as_aux_lemma => kernel_rfl)) (fun _ _ _ h => h) (Or.inl ⟨by rfl, ?_⟩) ?_ ?_
          rotate_left
          · intro w'
            go_simp
            with_reducible rfl
          rotate_left
          · simp only [Act.put, List.setIfInBounds_toArray, List.set_cons_zero, List.set_cons_succ, i64_w, i32_w]
            rfl
          refine done_ (done_of HT_.out (by as_aux_lemma => kernel_rfl)) ?_
          go_wp2
          refine bodyPost_ret (results_tmp2 rfl _ _ _) rfl ?_
          simp only [Array.getD_eq_getD_getElem?, List.getElem?_toArray, List.getElem?_cons_succ, List.getElem?_cons_zero, Option.getD_some]
          exact LQ.done HP.out HX.out H2.out
end Go.Proofs.Ytdjeekpgcjcffaa.Fil
end
section
namespace Go.Proofs.Ytdjeekpgcjcffaa.Fil
open Go.RowKit Go.Proofs.Ytdjeekpgcjcffaa.P Go.Proofs.Ytdjeekpgcjcffaa.E Go.Proofs.Ytdjeekpgcjcffaa.Cur Go.Proofs.Ytdjeekpgcjcffaa.Cu Go.Proofs.Ytdjeekpgcjcffaa.Same Go.Proofs.YtdjeekpgcjcffaaW.PrintWords Go.Proofs.YtdjeekpgcjcffaaW.PrintLast Go.Proofs.YtdjeekpgcjcffaaW.PrintMore
theorem out_err {code e : Int} {b : Cu × List S43} (h : b.1.fin.e = e) (he : e ≠ 0) : outc code b = (zeroM, e) := by
  unfold outc
  rw [if_pos (by rw [h]; exact he), h]
theorem body_no {rd : Rdp} {may : Int → Bool} {n : Int} {t : List Int} (hm : may n = false) : (body rd may (n :: t)).1.fin.e = 5 := by
  simp only [body]
  rw [byteV_cons, byteS_cons, hm]
  have d1 : ((cu t).need false 5).e = 5 := by unfold Cu.need; simp [cu]
  have d2 : (((cu t).need false 5).bytesS n).e = 5 := by rw [bytesS_dead (by rw [d1]; decide), d1]
  rw [need_dead (by rw [d2]; decide), fin_dead (by rw [d2]; decide), d2]
theorem body_short {rd : Rdp} {may : Int → Bool} {n : Int} {t : List Int} (hm : may n = true) (h : (t.length : Int) < n) : (body rd may (n :: t)).1.fin.e = 2 := by
  simp only [body]
  rw [byteV_cons, byteS_cons, hm, need_true]
  have d2 : ((cu t).bytesS n).e = 2 := bytesS_cut (.inl h)
  rw [need_dead (by rw [d2]; decide), fin_dead (by rw [d2]; decide), d2]
theorem within_no {e : Int} (h : e ≠ 0) : within e ≠ 0 := fun h2 => h (within_ne h2)
theorem body_bad {rd : Rdp} {may : Int → Bool} {b x : List Int} (hm : may b.length = true) (hp : (partsG rd b.length 0 (cu b)).1.e ≠ 0) : (body rd may ((b.length : Int) :: (b ++ x))).1.fin.e = within (partsG rd b.length 0 (cu b)).1.e := by
  simp only [body]
  rw [byteV_cons, byteS_cons, hm, need_true, bytesV_app _ _ rfl, bytesS_app _ _ rfl]
  have d : ((cu x).need ((partsG rd b.length 0 (cu b)).1.e == 0) (within (partsG rd b.length 0 (cu b)).1.e)).e = within (partsG rd b.length 0 (cu b)).1.e := by
    unfold Cu.need
    rw [show ((partsG rd b.length 0 (cu b)).1.e == 0) = false by simpa using hp]
    simp [cu]
  rw [fin_dead (by rw [d]; exact within_no hp), d]
theorem body_long {rd : Rdp} {may : Int → Bool} {b x : List Int} (hm : may b.length = true) (hp : (partsG rd b.length 0 (cu b)).1.e = 0) (hx : x ≠ []) : (body rd may ((b.length : Int) :: (b ++ x))).1.fin.e = 3 := by
  rw [body_run hm hp]
  cases x with
  | nil => exact absurd rfl hx
  | cons y ys => exact fin_cu_cons y ys
theorem out_ok {rd : Rdp} {may : Int → Bool} {b : List Int} {code : Int} (hm : may b.length = true) (hp : (partsG rd b.length 0 (cu b)).1.e = 0) : outc code (body rd may ((b.length : Int) :: b)) = ({ zeroM with code := code, recs := (partsG rd b.length 0 (cu b)).2 }, 0) := by
  have h := body_run hm hp []
  rw [List.append_nil] at h
  rw [h]
  unfold outc
  rw [if_neg (by show ¬ (cu []).fin.e ≠ 0; rw [fin_cu_nil]; simp [cu])]
theorem head_is {l : List Int} (h : l ≠ []) (hb : isBytes l) : l = l.getD 0 0 :: l.drop 1 ∧ 0 ≤ l.getD 0 0 ∧ l.getD 0 0 < 256 := by
  cases l with
  | nil => exact absurd rfl h
  | cons x t => exact ⟨rfl, hb x (List.mem_cons_self ..)⟩
theorem mid_is {l : List Int} {m : Nat} (h : m + 1 ≤ l.length) : (l.take (m + 1)).drop 1 = (l.drop 1).take m ∧ ((l.drop 1).take m).length = m ∧ l.drop 1 = (l.drop 1).take m ++ (l.drop 1).drop m := by
  refine ⟨?_, by rw [List.length_take, List.length_drop]; omega, (List.take_append_drop _ _).symm⟩
  rw [List.drop_take]
  simp
theorem first_at {w : World} {A : Option Addr} {l : List Int} (h : Kd.C (Kd.int .u8) w A l.length l) (hl : l ≠ []) : ∃ ad, A = some ad ∧ w.cell? ad = some (.int .u8 (l.getD 0 0)) := by
  have hp := List.length_pos_iff.2 hl
  obtain ⟨ad, cs, e, _, hK, hc0⟩ := Kd.C_get h 0 0 (by decide) (by omega)
  refine ⟨ad, e, ?_⟩
  have := hc0 0 (.int .u8 (l.getD 0 0)) (by first | (obtain rfl := hK; rfl) | (rw [hK]; rfl) | (obtain ⟨rfl, _⟩ := hK; rfl))
  rw [show (0 : Int).toNat * (Kd.int .u8).sz + 0 = 0 from rfl, Addr.add_zero'] at this
  exact this
theorem rparse_dir {dir code : Int} {A : Option Addr} {c : Nat} {l : List Int} {w0 : World} (hr : Kd.C (Kd.int .u8) w0 A l.length l) (hc : l.length ≤ c) (hs : l.length ≤ 1000000) (hb : isBytes l) (h0 : dir ≠ 0) (h1 : dir ≠ 1) :
    Calls Try.prog 13 #[.int .i64 dir, .int .u8 code, .slice A l.length c] w0 fun en w' => ∃ cx, en = .returned (.tuple #[.agg cx, .int .i64 (parse dir code l).2]) ∧ IsMsg w' cx (parse dir code l).1 ∧ Below w0.heap.size w0 w' := by
  clear hr hc hs hb
  have n0 : (dir != 0) = true := by simpa using h0
  have n1 : (dir != 1) = true := by simpa using h1
  have EX : Aside0 (parse dir code l = (zeroM, 1)) := ⟨by unfold parse; rw [if_pos ⟨h0, h1⟩]⟩
  clear h0 h1
  go_enter Try.func13, Try.ntmps13
  go_wp2_with (first | ((with_reducible refine gate_dst (N := 6) rfl ?_); refine ev_alloc rfl rfl ?_; intro gr w1 hg_ h1_ h2_; have HG := Aside0.mk hg_; have H1 := Aside0.mk h1_; have HB := Aside0.mk h2_; clear hg_ h1_ h2_) | ((with_reducible refine gate_dst (N := 18) rfl ?_); refine ev_build (zeroC) rfl (by go_simp; first | rfl | done) ?_; intro cz hcz_; have CZ := Aside0.mk hcz_; clear hcz_) | ((with_reducible refine gate_op (u := .store 30 (.tmp 6) (.tmp 18)) rfl ?_); refine Same.wpList_store_row 30 (.tmp 6) (.tmp 18) rfl rfl rfl rfl H1.out (by rw [CZ.out]) (msg_info (by rw [CZ.out]; rfl)) (by rw [CZ.out]; exact (zero_is w0).one) ?_; intro y9 h3_ h4_; have HZ := Aside0.mk h3_; have HW := Aside0.mk (HB.out.trans (h4_.below (by have := HG.out; omega) HB.out.size)); clear h3_ h4_))
  refine bodyPost_ret (results_ct rfl _ _ gr 30 cz (0, 0) _ rfl HZ.out Try.underlying30 rfl (msg_info (by rw [CZ.out]; rfl))) rfl ⟨cz, by rw [EX.out]; rfl, by rw [EX.out, CZ.out]; exact zero_is _, HW.out⟩
theorem rparse_no0 {code : Int} {A : Option Addr} {c : Nat} {l : List Int} {w0 : World} (hr : Kd.C (Kd.int .u8) w0 A l.length l) (hc : l.length ≤ c) (hs : l.length ≤ 1000000) (hb : isBytes l) (h0 : code ≠ 20) (h1 : code ≠ 21) :
    Calls Try.prog 13 #[.int .i64 0, .int .u8 code, .slice A l.length c] w0 fun en w' => ∃ cx, en = .returned (.tuple #[.agg cx, .int .i64 (parse 0 code l).2]) ∧ IsMsg w' cx (parse 0 code l).1 ∧ Below w0.heap.size w0 w' := by
  clear hr hc hs hb
  have n0 : (code != 20) = true := by simpa using h0
  have n1 : (code != 21) = true := by simpa using h1
  have EX : Aside0 (parse 0 code l = (zeroM, 4)) := ⟨by unfold parse; rw [if_neg (by simp), if_pos ⟨h0, h1⟩]⟩
  clear h0 h1
  go_enter Try.func13, Try.ntmps13
  go_wp2_with (first | ((with_reducible refine gate_dst (N := 6) rfl ?_); refine ev_alloc rfl rfl ?_; intro gr w1 hg_ h1_ h2_; have HG := Aside0.mk hg_; have H1 := Aside0.mk h1_; have HB := Aside0.mk h2_; clear hg_ h1_ h2_) | ((with_reducible refine gate_dst (N := 25) rfl ?_); refine ev_build (zeroC) rfl (by go_simp; first | rfl | done) ?_; intro cz hcz_; have CZ := Aside0.mk hcz_; clear hcz_) | ((with_reducible refine gate_op (u := .store 30 (.tmp 6) (.tmp 25)) rfl ?_); refine Same.wpList_store_row 30 (.tmp 6) (.tmp 25) rfl rfl rfl rfl H1.out (by rw [CZ.out]) (msg_info (by rw [CZ.out]; rfl)) (by rw [CZ.out]; exact (zero_is w0).one) ?_; intro y9 h3_ h4_; have HZ := Aside0.mk h3_; have HW := Aside0.mk (HB.out.trans (h4_.below (by have := HG.out; omega) HB.out.size)); clear h3_ h4_))
  refine bodyPost_ret (results_ct rfl _ _ gr 30 cz (0, 0) _ rfl HZ.out Try.underlying30 rfl (msg_info (by rw [CZ.out]; rfl))) rfl ⟨cz, by rw [EX.out]; rfl, by rw [EX.out, CZ.out]; exact zero_is _, HW.out⟩
theorem rparse_no1 {code : Int} {A : Option Addr} {c : Nat} {l : List Int} {w0 : World} (hr : Kd.C (Kd.int .u8) w0 A l.length l) (hc : l.length ≤ c) (hs : l.length ≤ 1000000) (hb : isBytes l) (h0 : code ≠ 20) (h1 : code ≠ 21) :
    Calls Try.prog 13 #[.int .i64 1, .int .u8 code, .slice A l.length c] w0 fun en w' => ∃ cx, en = .returned (.tuple #[.agg cx, .int .i64 (parse 1 code l).2]) ∧ IsMsg w' cx (parse 1 code l).1 ∧ Below w0.heap.size w0 w' := by
  clear hr hc hs hb
  have n0 : (code != 20) = true := by simpa using h0
  have n1 : (code != 21) = true := by simpa using h1
  have EX : Aside0 (parse 1 code l = (zeroM, 4)) := ⟨by unfold parse; rw [if_neg (by simp), if_pos ⟨h0, h1⟩]⟩
  clear h0 h1
  go_enter Try.func13, Try.ntmps13
  go_wp2_with (first | ((with_reducible refine gate_dst (N := 6) rfl ?_); refine ev_alloc rfl rfl ?_; intro gr w1 hg_ h1_ h2_; have HG := Aside0.mk hg_; have H1 := Aside0.mk h1_; have HB := Aside0.mk h2_; clear hg_ h1_ h2_) | ((with_reducible refine gate_dst (N := 25) rfl ?_); refine ev_build (zeroC) rfl (by go_simp; first | rfl | done) ?_; intro cz hcz_; have CZ := Aside0.mk hcz_; clear hcz_) | ((with_reducible refine gate_op (u := .store 30 (.tmp 6) (.tmp 25)) rfl ?_); refine Same.wpList_store_row 30 (.tmp 6) (.tmp 25) rfl rfl rfl rfl H1.out (by rw [CZ.out]) (msg_info (by rw [CZ.out]; rfl)) (by rw [CZ.out]; exact (zero_is w0).one) ?_; intro y9 h3_ h4_; have HZ := Aside0.mk h3_; have HW := Aside0.mk (HB.out.trans (h4_.below (by have := HG.out; omega) HB.out.size)); clear h3_ h4_))
  refine bodyPost_ret (results_ct rfl _ _ gr 30 cz (0, 0) _ rfl HZ.out Try.underlying30 rfl (msg_info (by rw [CZ.out]; rfl))) rfl ⟨cz, by rw [EX.out]; rfl, by rw [EX.out, CZ.out]; exact zero_is _, HW.out⟩
theorem rparse_0_20 {A : Option Addr} {c : Nat} {l : List Int} {w0 : World} (hr : Kd.C (Kd.int .u8) w0 A l.length l) (hc : l.length ≤ c) (hs : l.length ≤ 1000000) (hb : isBytes l) :
    Calls Try.prog 13 #[.int .i64 0, .int .u8 20, .slice A l.length c] w0 fun en w' => ∃ cx, en = .returned (.tuple #[.agg cx, .int .i64 (parse 0 20 l).2]) ∧ IsMsg w' cx (parse 0 20 l).1 ∧ Below w0.heap.size w0 w' := by
  have HR := Aside0.mk hr
  have HC := Aside0.mk hc
  have HS := Aside0.mk hs
  have HBB := Aside0.mk hb
  clear hr hc hb
  have HP : Aside0 (parse 0 20 l = outc 20 (body rd0 may0 l)) := ⟨rfl⟩
  go_enter Try.func13, Try.ntmps13
  go_upto_region 5 with (first | ((with_reducible refine gate_dst (N := 6) rfl ?_); refine ev_alloc rfl rfl ?_; intro gr w1 hg_ h1_ h2_; have HG := Aside0.mk hg_; have H1 := Aside0.mk h1_; have HB := Aside0.mk h2_; clear hg_ h1_ h2_))
  by_cases hl : l = []
  · have g1 : ((l.length : Int) == 0) = true := by rw [hl]; rfl
    have HL := Aside0.mk hl
    clear hl hs
    have EX := Aside0.mk (show parse 0 20 l = (zeroM, 2) from HP.out.trans (by rw [HL.out]; exact out_err (body_none _ _) (by decide)))
    go_wp2_with (first | ((with_reducible refine gate_dst (N := 29) rfl ?_); refine ev_build (zeroC) rfl (by go_simp; first | rfl | done) ?_; intro cz hcz_; have CZ := Aside0.mk hcz_; clear hcz_) | ((with_reducible refine gate_op (u := .store 30 (.tmp 6) (.tmp 29)) rfl ?_); refine Same.wpList_store_row 30 (.tmp 6) (.tmp 29) rfl rfl rfl rfl H1.out (by rw [CZ.out]) (msg_info (by rw [CZ.out]; rfl)) (by rw [CZ.out]; exact (zero_is w0).one) ?_; intro y9 h3_ h4_; have HZ := Aside0.mk h3_; have HW := Aside0.mk (HB.out.trans (h4_.below (by have := HG.out; omega) HB.out.size)); clear h3_ h4_))
    refine bodyPost_ret (results_ct rfl _ _ gr 30 cz (0, 0) _ rfl HZ.out Try.underlying30 rfl (msg_info (by rw [CZ.out]; rfl))) rfl ⟨cz, by rw [EX.out]; rfl, by rw [EX.out, CZ.out]; exact zero_is _, HW.out⟩
  · have hlp := List.length_pos_iff.2 hl
    have g1 : ((l.length : Int) == 0) = false := beq_eq_false_iff_ne.2 (by omega)
    obtain ⟨he_, lo_, hi_⟩ := head_is hl HBB.out
    obtain ⟨ad, eA, kc⟩ := first_at (Kd.C_below HR.out HB.out) hl
    obtain ⟨n, en_⟩ : ∃ z, z = l.getD 0 0 := ⟨_, rfl⟩
    obtain ⟨t, et_⟩ : ∃ z, z = l.drop 1 := ⟨_, rfl⟩
    rw [← en_, ← et_] at he_
    rw [← en_] at lo_ hi_ kc
    have HE := Aside0.mk he_
    have ET := Aside0.mk et_
    have HLL := Aside0.mk (show l.length = t.length + 1 by rw [he_]; rfl)
    have HL0 := Aside0.mk hl
    clear he_ et_ en_ hl
    subst eA
    have wk : wrap64 n = n := wrap64_id (by omega) (by omega)
    have wkb : IntKind.i64.wrap n = n := by rw [i64_w]; exact wk
    have dl : decide ((0 : Int) < (l.length : Int)) = true := decide_eq_true (by omega)
    go_upto_region 8 with (fail)
    clear kc
    go_cut [9] from 34 to 39 (fun v9_ wx => w1 = wx)
    case first =>
      by_cases ca : n < 9
      · have q0 : decide (9 ≤ n) = false := decide_eq_false (by omega)
        have q0b : decide (n ≥ 9) = false := q0
        go_wp2
        go_meet
        rfl
      · by_cases cb : n < 252
        · have q0 : decide (9 ≤ n) = true := decide_eq_true (by omega)
          have q0b : decide (n ≥ 9) = true := q0
          have q1 : decide (n ≤ 251) = true := decide_eq_true (by omega)
          go_wp2
          go_meet
          rfl
        · have q0 : decide (9 ≤ n) = true := decide_eq_true (by omega)
          have q0b : decide (n ≥ 9) = true := q0
          have q1 : decide (n ≤ 251) = false := decide_eq_false (by omega)
          go_wp2
          go_meet
          rfl
    case rest =>
    subst hcut
    go_upto_if 45 with (fail)
    go_cut [9] from 46 to 56 (fun v9_ wx => v9_ = .bool (may0 n) ∧ w1 = wx)
    case first =>
      by_cases ca : n < 7
      · have q0 : decide (7 ≤ n) = false := decide_eq_false (by omega)
        have q0b : decide (n ≥ 7) = false := q0
        have em : may0 n = false := by simp [may0, q0]
        go_wp2
        go_meet
        exact ⟨by rw [em], rfl⟩
      · by_cases cb : n < 246
        · by_cases m7 : n % 7 = 0
          · have q0 : decide (7 ≤ n) = true := decide_eq_true (by omega)
            have q0b : decide (n ≥ 7) = true := q0
            have q1 : decide (n ≤ 245) = true := decide_eq_true (by omega)
            have e7 : decide (n % 7 = 0) = true := decide_eq_true m7
            have e7b : (n % 7 == 0) = true := beq_iff_eq.2 m7
            have e7c : (Int.tmod n 7 == 0) = true := by rw [Int.tmod_eq_emod_of_nonneg lo_]; exact e7b
            have em : may0 n = true := by simp [may0, q0, q1, m7]
            go_wp2
            go_meet
            exact ⟨by rw [em], rfl⟩
          · have q0 : decide (7 ≤ n) = true := decide_eq_true (by omega)
            have q0b : decide (n ≥ 7) = true := q0
            have q1 : decide (n ≤ 245) = true := decide_eq_true (by omega)
            have e7 : decide (n % 7 = 0) = false := decide_eq_false m7
            have e7b : (n % 7 == 0) = false := beq_eq_false_iff_ne.2 m7
            have e7c : (Int.tmod n 7 == 0) = false := by rw [Int.tmod_eq_emod_of_nonneg lo_]; exact e7b
            have em : may0 n = false := by simp [may0, q0, q1, m7]
            go_wp2
            go_meet
            exact ⟨by rw [em], rfl⟩
        · have q0 : decide (7 ≤ n) = true := decide_eq_true (by omega)
          have q0b : decide (n ≥ 7) = true := q0
          have q1 : decide (n ≤ 245) = false := decide_eq_false (by omega)
          have em : may0 n = false := by simp [may0, q0, q1]
          go_wp2
          go_meet
          exact ⟨by rw [em], rfl⟩
    case rest =>
    obtain ⟨e9_, ew_⟩ := hcut
    subst e9_
    subst ew_
    cases hm : may0 n with
    | false =>
      have HM := Aside0.mk hm
      have EX := Aside0.mk (show parse 0 20 l = (zeroM, 5) from HP.out.trans (by rw [HE.out]; exact out_err (body_no HM.out) (by decide)))
      go_wp2_with (first | ((with_reducible refine gate_dst (N := 71) rfl ?_); refine ev_build (zeroC) rfl (by go_simp; first | rfl | done) ?_; intro cz hcz_; have CZ := Aside0.mk hcz_; clear hcz_) | ((with_reducible refine gate_op (u := .store 30 (.tmp 6) (.tmp 71)) rfl ?_); refine Same.wpList_store_row 30 (.tmp 6) (.tmp 71) rfl rfl rfl rfl H1.out (by rw [CZ.out]) (msg_info (by rw [CZ.out]; rfl)) (by rw [CZ.out]; exact (zero_is w0).one) ?_; intro y9 h3_ h4_; have HZ := Aside0.mk h3_; have HW := Aside0.mk (HB.out.trans (h4_.below (by have := HG.out; omega) HB.out.size)); clear h3_ h4_))
      refine bodyPost_ret (results_ct rfl _ _ gr 30 cz (0, 0) _ rfl HZ.out Try.underlying30 rfl (msg_info (by rw [CZ.out]; rfl))) rfl ⟨cz, by rw [EX.out]; rfl, by rw [EX.out, CZ.out]; exact zero_is _, HW.out⟩
    | true =>
      have HM := Aside0.mk hm
      have ml : 4 ≤ n ∧ n ≤ 251 := by simp only [may0, Bool.and_eq_true, decide_eq_true_eq] at hm; omega
      have w1_ : wrap64 (n + 1) = n + 1 := wrap64_id (by omega) (by omega)
      have w1b : IntKind.i64.wrap (n + 1) = n + 1 := by rw [i64_w]; exact w1_
      by_cases hsh : (l.length : Int) < n + 1
      · have gs : decide ((l.length : Int) < n + 1) = true := decide_eq_true hsh
        have HSH := Aside0.mk (show (t.length : Int) < n by have := HLL.out; omega)
        clear hsh
        have EX := Aside0.mk (show parse 0 20 l = (zeroM, 2) from HP.out.trans (by rw [HE.out]; exact out_err (body_short HM.out HSH.out) (by decide)))
        go_wp2_with (first | ((with_reducible refine gate_dst (N := 77) rfl ?_); refine ev_build (zeroC) rfl (by go_simp; first | rfl | done) ?_; intro cz hcz_; have CZ := Aside0.mk hcz_; clear hcz_) | ((with_reducible refine gate_op (u := .store 30 (.tmp 6) (.tmp 77)) rfl ?_); refine Same.wpList_store_row 30 (.tmp 6) (.tmp 77) rfl rfl rfl rfl H1.out (by rw [CZ.out]) (msg_info (by rw [CZ.out]; rfl)) (by rw [CZ.out]; exact (zero_is w0).one) ?_; intro y9 h3_ h4_; have HZ := Aside0.mk h3_; have HW := Aside0.mk (HB.out.trans (h4_.below (by have := HG.out; omega) HB.out.size)); clear h3_ h4_))
        refine bodyPost_ret (results_ct rfl _ _ gr 30 cz (0, 0) _ rfl HZ.out Try.underlying30 rfl (msg_info (by rw [CZ.out]; rfl))) rfl ⟨cz, by rw [EX.out]; rfl, by rw [EX.out, CZ.out]; exact zero_is _, HW.out⟩
      · have gs : decide ((l.length : Int) < n + 1) = false := decide_eq_false hsh
        obtain ⟨m, em_⟩ := Int.eq_ofNat_of_zero_le lo_
        subst em_
        obtain ⟨x1_, x2_, x3_⟩ := mid_is (l := l) (m := m) (by omega)
        rw [← ET.out] at x1_ x2_ x3_
        obtain ⟨b, eb_⟩ : ∃ z, z = t.take m := ⟨_, rfl⟩
        obtain ⟨x, ex_⟩ : ∃ z, z = t.drop m := ⟨_, rfl⟩
        rw [← eb_] at x1_ x2_ x3_
        rw [← ex_] at x3_
        have X1 := Aside0.mk x1_
        have X2 := Aside0.mk x2_
        have HE2 : Aside0 (l = (b.length : Int) :: (b ++ x)) := ⟨by rw [x2_, ← x3_]; exact HE.out⟩
        have HM2 : Aside0 (may0 (b.length : Int) = true) := ⟨by rw [x2_]; exact HM.out⟩
        have HXX := Aside0.mk (show l.length = m + 1 + x.length by rw [HE2.out]; simp [x2_]; omega)
        clear eb_ ex_ x3_ x1_ HE ET
        obtain ⟨i, hi1, hi2⟩ := u8_info
        have cut := cut_mid 22 5 .i64 .i64 Try.underlying22 hi1 1 hi2 (some ad) l.length c 1 ((m : Int) + 1) (by omega) (by omega) (by omega) HC.out
        have hZt : ((m : Int) + 1).toNat - (1 : Int).toNat = b.length := by rw [x2_]; omega
        have hZ1 : (1 : Int).toNat = 1 := rfl
        rw [hZt, hZ1] at cut
        obtain ⟨A2, hA2⟩ : ∃ A2, A2 = if c = 1 then some ad else (some ad : Option Addr).map fun x => x.add (1 * 1) := ⟨_, rfl⟩
        rw [← hA2] at cut
        have hr2 : Kd.C (Kd.int .u8) w1 A2 b.length b := by have := Kd.C_mid (lo := 1) (hi := m + 1) (Kd.C_below HR.out HB.out) (by omega) (by omega) HC.out; rw [X1.out] at this; rw [hA2]; exact this
        have HCALL := Aside0.mk (rparts0 hr2 (n := c - 1) (by have := HC.out; omega) (by omega) (fun y hy => HBB.out y (by rw [HE2.out]; exact List.mem_cons_of_mem _ (List.mem_append_left _ hy))))
        clear hr2 hA2 hi1 hi2 hZt hZ1 x2_
        go_upto_region 18 with (first | (go_at_call 28; (with_reducible refine HCALL.out.mono ?_); rintro en x2 ⟨A9, m9, n9, rfl, hb2_, hq_⟩; have n0_ := Aside0.mk (blk_below H1.out hb2_); have n1_ := Aside0.mk (HB.out.trans (hb2_.mono HB.out.size)); have HQ := Aside0.mk hq_; have HZ2 := Aside0.mk (show w1.heap.size ≤ x2.heap.size from hb2_.size); have HLT := Aside0.mk (blk_lt H1.out); clear H1 HB HCALL hb2_ hq_; have H1 := n0_; have HB := n1_; clear n0_ n1_))
        clear cut
        by_cases he : (partsG rd0 b.length 0 (cu b)).1.e = 0
        · have hw : within (partsG rd0 b.length 0 (cu b)).1.e = 0 := by rw [he]; rfl
          rw [hw]
          obtain ⟨em9, hn9, hC9, hG9⟩ := HQ.out he
          have HE0 := Aside0.mk he
          clear hw he HQ
          have EM := Aside0.mk em9
          have HN9 := Aside0.mk hn9
          have HC9 := Aside0.mk hC9
          have HG9 := Aside0.mk hG9
          clear em9 hn9 hC9 hG9
          by_cases hx : x = []
          · have gl : decide ((l.length : Int) > (m : Int) + 1) = false := decide_eq_false (by have := HXX.out; rw [hx] at this; simp at this; omega)
            have glb : decide ((m : Int) + 1 < (l.length : Int)) = false := gl
            have HX := Aside0.mk hx
            clear hx
            have IR : Aside0 (∀ W', Kept x2 W' (fun k => k < w1.heap.size) → IsMsg W' ((codeC 20).setIfInBounds 15 (.slice A9 m9 n9)) { ({ zeroM with code := 20 } : Msg) with recs := (partsG rd0 b.length 0 (cu b)).2 }) := ⟨fun W' hk => by rw [EM.out]; exact set_recs (codeC_is (by decide) W') (by rw [← EM.out]; exact HN9.out) HG9.out (by have := HC9.out W' hk; rw [EM.out] at this; exact this)⟩
            have EX := Aside0.mk (show parse 0 20 l = ({ zeroM with code := 20, recs := (partsG rd0 b.length 0 (cu b)).2 }, 0) from HP.out.trans (by rw [HE2.out, HX.out, List.append_nil]; exact out_ok HM2.out HE0.out))
            go_wp2_with (first | ((with_reducible refine gate_dst (N := 100) rfl ?_); refine ev_build ((codeC 20).setIfInBounds 15 (.slice A9 m9 n9)) rfl (by go_simp; first | rfl | done) ?_; intro cz hcz_; have CZ := Aside0.mk hcz_; clear hcz_) | ((with_reducible refine gate_op (u := .store 30 (.tmp 6) (.tmp 100)) rfl ?_); refine Same.wpList_store_row 30 (.tmp 6) (.tmp 100) rfl rfl rfl rfl H1.out (by rw [CZ.out]; rfl) (msg_info (by rw [CZ.out]; rfl)) (by rw [CZ.out]; exact (IR.out x2 (Kept.refl _ _)).one) ?_; intro y9 h3_ h4_; have HZ := Aside0.mk h3_; have HW := Aside0.mk (HB.out.trans (h4_.below (by have := HG.out; omega) HB.out.size)); have HUP := Aside0.mk h4_; clear h3_ h4_))
            refine bodyPost_ret (results_ct rfl _ _ gr 30 cz (0, 0) _ rfl HZ.out Try.underlying30 rfl (msg_info (by rw [CZ.out]; rfl))) rfl ⟨cz, by rw [EX.out]; rfl, by rw [EX.out, CZ.out]; exact IR.out _ (HUP.out.kept.mono fun j hj => by have := HLT.out; omega), HW.out⟩
          · have gl : decide ((l.length : Int) > (m : Int) + 1) = true := decide_eq_true (by have := HXX.out; have := List.length_pos_iff.2 hx; omega)
            have glb : decide ((m : Int) + 1 < (l.length : Int)) = true := gl
            have HX := Aside0.mk hx
            clear hx
            have EX := Aside0.mk (show parse 0 20 l = (zeroM, 3) from HP.out.trans (by rw [HE2.out]; exact out_err (body_long HM2.out HE0.out HX.out) (by decide)))
            go_wp2_with (first | ((with_reducible refine gate_dst (N := 97) rfl ?_); refine ev_build (zeroC) rfl (by go_simp; first | rfl | done) ?_; intro cz hcz_; have CZ := Aside0.mk hcz_; clear hcz_) | ((with_reducible refine gate_op (u := .store 30 (.tmp 6) (.tmp 97)) rfl ?_); refine Same.wpList_store_row 30 (.tmp 6) (.tmp 97) rfl rfl rfl rfl H1.out (by rw [CZ.out]) (msg_info (by rw [CZ.out]; rfl)) (by rw [CZ.out]; exact (zero_is w0).one) ?_; intro y9 h3_ h4_; have HZ := Aside0.mk h3_; have HW := Aside0.mk (HB.out.trans (h4_.below (by have := HG.out; omega) HB.out.size)); clear h3_ h4_))
            refine bodyPost_ret (results_ct rfl _ _ gr 30 cz (0, 0) _ rfl HZ.out Try.underlying30 rfl (msg_info (by rw [CZ.out]; rfl))) rfl ⟨cz, by rw [EX.out]; rfl, by rw [EX.out, CZ.out]; exact zero_is _, HW.out⟩
        · have HE0 := Aside0.mk he
          obtain ⟨ev, eev_⟩ : ∃ z, z = within (partsG rd0 b.length 0 (cu b)).1.e := ⟨_, rfl⟩
          rw [← eev_]
          have EV := Aside0.mk eev_
          have gv : (ev != 0) = true := by rw [eev_]; simpa using within_no he
          clear he eev_ HQ
          have EX := Aside0.mk (show parse 0 20 l = (zeroM, ev) from HP.out.trans (by rw [HE2.out, EV.out]; exact out_err (body_bad HM2.out HE0.out) (within_no HE0.out)))
          go_wp2_with (first | ((with_reducible refine gate_dst (N := 90) rfl ?_); refine ev_build (zeroC) rfl (by go_simp; first | rfl | done) ?_; intro cz hcz_; have CZ := Aside0.mk hcz_; clear hcz_) | ((with_reducible refine gate_op (u := .store 30 (.tmp 6) (.tmp 90)) rfl ?_); refine Same.wpList_store_row 30 (.tmp 6) (.tmp 90) rfl rfl rfl rfl H1.out (by rw [CZ.out]) (msg_info (by rw [CZ.out]; rfl)) (by rw [CZ.out]; exact (zero_is w0).one) ?_; intro y9 h3_ h4_; have HZ := Aside0.mk h3_; have HW := Aside0.mk (HB.out.trans (h4_.below (by have := HG.out; omega) HB.out.size)); clear h3_ h4_))
          refine bodyPost_ret (results_ct rfl _ _ gr 30 cz (0, 0) _ rfl HZ.out Try.underlying30 rfl (msg_info (by rw [CZ.out]; rfl))) rfl ⟨cz, by rw [EX.out]; rfl, by rw [EX.out, CZ.out]; exact zero_is _, HW.out⟩
theorem rparse_1_20 {A : Option Addr} {c : Nat} {l : List Int} {w0 : World} (hr : Kd.C (Kd.int .u8) w0 A l.length l) (hc : l.length ≤ c) (hs : l.length ≤ 1000000) (hb : isBytes l) :
    Calls Try.prog 13 #[.int .i64 1, .int .u8 20, .slice A l.length c] w0 fun en w' => ∃ cx, en = .returned (.tuple #[.agg cx, .int .i64 (parse 1 20 l).2]) ∧ IsMsg w' cx (parse 1 20 l).1 ∧ Below w0.heap.size w0 w' := by
  have HR := Aside0.mk hr
  have HC := Aside0.mk hc
  have HS := Aside0.mk hs
  have HBB := Aside0.mk hb
  clear hr hc hb
  have HP : Aside0 (parse 1 20 l = outc 20 (body rd1 may1 l)) := ⟨rfl⟩
  go_enter Try.func13, Try.ntmps13
  go_upto_region 5 with (first | ((with_reducible refine gate_dst (N := 6) rfl ?_); refine ev_alloc rfl rfl ?_; intro gr w1 hg_ h1_ h2_; have HG := Aside0.mk hg_; have H1 := Aside0.mk h1_; have HB := Aside0.mk h2_; clear hg_ h1_ h2_))
  by_cases hl : l = []
  · have g1 : ((l.length : Int) == 0) = true := by rw [hl]; rfl
    have HL := Aside0.mk hl
    clear hl hs
    have EX := Aside0.mk (show parse 1 20 l = (zeroM, 2) from HP.out.trans (by rw [HL.out]; exact out_err (body_none _ _) (by decide)))
    go_wp2_with (first | ((with_reducible refine gate_dst (N := 29) rfl ?_); refine ev_build (zeroC) rfl (by go_simp; first | rfl | done) ?_; intro cz hcz_; have CZ := Aside0.mk hcz_; clear hcz_) | ((with_reducible refine gate_op (u := .store 30 (.tmp 6) (.tmp 29)) rfl ?_); refine Same.wpList_store_row 30 (.tmp 6) (.tmp 29) rfl rfl rfl rfl H1.out (by rw [CZ.out]) (msg_info (by rw [CZ.out]; rfl)) (by rw [CZ.out]; exact (zero_is w0).one) ?_; intro y9 h3_ h4_; have HZ := Aside0.mk h3_; have HW := Aside0.mk (HB.out.trans (h4_.below (by have := HG.out; omega) HB.out.size)); clear h3_ h4_))
    refine bodyPost_ret (results_ct rfl _ _ gr 30 cz (0, 0) _ rfl HZ.out Try.underlying30 rfl (msg_info (by rw [CZ.out]; rfl))) rfl ⟨cz, by rw [EX.out]; rfl, by rw [EX.out, CZ.out]; exact zero_is _, HW.out⟩
  · have hlp := List.length_pos_iff.2 hl
    have g1 : ((l.length : Int) == 0) = false := beq_eq_false_iff_ne.2 (by omega)
    obtain ⟨he_, lo_, hi_⟩ := head_is hl HBB.out
    obtain ⟨ad, eA, kc⟩ := first_at (Kd.C_below HR.out HB.out) hl
    obtain ⟨n, en_⟩ : ∃ z, z = l.getD 0 0 := ⟨_, rfl⟩
    obtain ⟨t, et_⟩ : ∃ z, z = l.drop 1 := ⟨_, rfl⟩
    rw [← en_, ← et_] at he_
    rw [← en_] at lo_ hi_ kc
    have HE := Aside0.mk he_
    have ET := Aside0.mk et_
    have HLL := Aside0.mk (show l.length = t.length + 1 by rw [he_]; rfl)
    have HL0 := Aside0.mk hl
    clear he_ et_ en_ hl
    subst eA
    have wk : wrap64 n = n := wrap64_id (by omega) (by omega)
    have wkb : IntKind.i64.wrap n = n := by rw [i64_w]; exact wk
    have dl : decide ((0 : Int) < (l.length : Int)) = true := decide_eq_true (by omega)
    go_upto_region 8 with (fail)
    clear kc
    go_cut [9] from 34 to 39 (fun v9_ wx => w1 = wx)
    case first =>
      by_cases ca : n < 9
      · have q0 : decide (9 ≤ n) = false := decide_eq_false (by omega)
        have q0b : decide (n ≥ 9) = false := q0
        go_wp2
        go_meet
        rfl
      · by_cases cb : n < 252
        · have q0 : decide (9 ≤ n) = true := decide_eq_true (by omega)
          have q0b : decide (n ≥ 9) = true := q0
          have q1 : decide (n ≤ 251) = true := decide_eq_true (by omega)
          go_wp2
          go_meet
          rfl
        · have q0 : decide (9 ≤ n) = true := decide_eq_true (by omega)
          have q0b : decide (n ≥ 9) = true := q0
          have q1 : decide (n ≤ 251) = false := decide_eq_false (by omega)
          go_wp2
          go_meet
          rfl
    case rest =>
    subst hcut
    go_upto_if 62 with (fail)
    go_cut [9] from 63 to 68 (fun v9_ wx => v9_ = .bool (may1 n) ∧ w1 = wx)
    case first =>
      by_cases ca : n < 4
      · have q0 : decide (4 ≤ n) = false := decide_eq_false (by omega)
        have q0b : decide (n ≥ 4) = false := q0
        have em : may1 n = false := by simp [may1, q0]
        go_wp2
        go_meet
        exact ⟨by rw [em], rfl⟩
      · by_cases cb : n < 246
        · have q0 : decide (4 ≤ n) = true := decide_eq_true (by omega)
          have q0b : decide (n ≥ 4) = true := q0
          have q1 : decide (n ≤ 245) = true := decide_eq_true (by omega)
          have em : may1 n = true := by simp [may1, q0, q1]
          go_wp2
          go_meet
          exact ⟨by rw [em], rfl⟩
        · have q0 : decide (4 ≤ n) = true := decide_eq_true (by omega)
          have q0b : decide (n ≥ 4) = true := q0
          have q1 : decide (n ≤ 245) = false := decide_eq_false (by omega)
          have em : may1 n = false := by simp [may1, q0, q1]
          go_wp2
          go_meet
          exact ⟨by rw [em], rfl⟩
    case rest =>
    obtain ⟨e9_, ew_⟩ := hcut
    subst e9_
    subst ew_
    cases hm : may1 n with
    | false =>
      have HM := Aside0.mk hm
      have EX := Aside0.mk (show parse 1 20 l = (zeroM, 5) from HP.out.trans (by rw [HE.out]; exact out_err (body_no HM.out) (by decide)))
      go_wp2_with (first | ((with_reducible refine gate_dst (N := 71) rfl ?_); refine ev_build (zeroC) rfl (by go_simp; first | rfl | done) ?_; intro cz hcz_; have CZ := Aside0.mk hcz_; clear hcz_) | ((with_reducible refine gate_op (u := .store 30 (.tmp 6) (.tmp 71)) rfl ?_); refine Same.wpList_store_row 30 (.tmp 6) (.tmp 71) rfl rfl rfl rfl H1.out (by rw [CZ.out]) (msg_info (by rw [CZ.out]; rfl)) (by rw [CZ.out]; exact (zero_is w0).one) ?_; intro y9 h3_ h4_; have HZ := Aside0.mk h3_; have HW := Aside0.mk (HB.out.trans (h4_.below (by have := HG.out; omega) HB.out.size)); clear h3_ h4_))
      refine bodyPost_ret (results_ct rfl _ _ gr 30 cz (0, 0) _ rfl HZ.out Try.underlying30 rfl (msg_info (by rw [CZ.out]; rfl))) rfl ⟨cz, by rw [EX.out]; rfl, by rw [EX.out, CZ.out]; exact zero_is _, HW.out⟩
    | true =>
      have HM := Aside0.mk hm
      have ml : 4 ≤ n ∧ n ≤ 251 := by simp only [may1, Bool.and_eq_true, decide_eq_true_eq] at hm; omega
      have w1_ : wrap64 (n + 1) = n + 1 := wrap64_id (by omega) (by omega)
      have w1b : IntKind.i64.wrap (n + 1) = n + 1 := by rw [i64_w]; exact w1_
      by_cases hsh : (l.length : Int) < n + 1
      · have gs : decide ((l.length : Int) < n + 1) = true := decide_eq_true hsh
        have HSH := Aside0.mk (show (t.length : Int) < n by have := HLL.out; omega)
        clear hsh
        have EX := Aside0.mk (show parse 1 20 l = (zeroM, 2) from HP.out.trans (by rw [HE.out]; exact out_err (body_short HM.out HSH.out) (by decide)))
        go_wp2_with (first | ((with_reducible refine gate_dst (N := 77) rfl ?_); refine ev_build (zeroC) rfl (by go_simp; first | rfl | done) ?_; intro cz hcz_; have CZ := Aside0.mk hcz_; clear hcz_) | ((with_reducible refine gate_op (u := .store 30 (.tmp 6) (.tmp 77)) rfl ?_); refine Same.wpList_store_row 30 (.tmp 6) (.tmp 77) rfl rfl rfl rfl H1.out (by rw [CZ.out]) (msg_info (by rw [CZ.out]; rfl)) (by rw [CZ.out]; exact (zero_is w0).one) ?_; intro y9 h3_ h4_; have HZ := Aside0.mk h3_; have HW := Aside0.mk (HB.out.trans (h4_.below (by have := HG.out; omega) HB.out.size)); clear h3_ h4_))
        refine bodyPost_ret (results_ct rfl _ _ gr 30 cz (0, 0) _ rfl HZ.out Try.underlying30 rfl (msg_info (by rw [CZ.out]; rfl))) rfl ⟨cz, by rw [EX.out]; rfl, by rw [EX.out, CZ.out]; exact zero_is _, HW.out⟩
      · have gs : decide ((l.length : Int) < n + 1) = false := decide_eq_false hsh
        obtain ⟨m, em_⟩ := Int.eq_ofNat_of_zero_le lo_
        subst em_
        obtain ⟨x1_, x2_, x3_⟩ := mid_is (l := l) (m := m) (by omega)
        rw [← ET.out] at x1_ x2_ x3_
        obtain ⟨b, eb_⟩ : ∃ z, z = t.take m := ⟨_, rfl⟩
        obtain ⟨x, ex_⟩ : ∃ z, z = t.drop m := ⟨_, rfl⟩
        rw [← eb_] at x1_ x2_ x3_
        rw [← ex_] at x3_
        have X1 := Aside0.mk x1_
        have X2 := Aside0.mk x2_
        have HE2 : Aside0 (l = (b.length : Int) :: (b ++ x)) := ⟨by rw [x2_, ← x3_]; exact HE.out⟩
        have HM2 : Aside0 (may1 (b.length : Int) = true) := ⟨by rw [x2_]; exact HM.out⟩
        have HXX := Aside0.mk (show l.length = m + 1 + x.length by rw [HE2.out]; simp [x2_]; omega)
        clear eb_ ex_ x3_ x1_ HE ET
        obtain ⟨i, hi1, hi2⟩ := u8_info
        have cut := cut_mid 22 5 .i64 .i64 Try.underlying22 hi1 1 hi2 (some ad) l.length c 1 ((m : Int) + 1) (by omega) (by omega) (by omega) HC.out
        have hZt : ((m : Int) + 1).toNat - (1 : Int).toNat = b.length := by rw [x2_]; omega
        have hZ1 : (1 : Int).toNat = 1 := rfl
        rw [hZt, hZ1] at cut
        obtain ⟨A2, hA2⟩ : ∃ A2, A2 = if c = 1 then some ad else (some ad : Option Addr).map fun x => x.add (1 * 1) := ⟨_, rfl⟩
        rw [← hA2] at cut
        have hr2 : Kd.C (Kd.int .u8) w1 A2 b.length b := by have := Kd.C_mid (lo := 1) (hi := m + 1) (Kd.C_below HR.out HB.out) (by omega) (by omega) HC.out; rw [X1.out] at this; rw [hA2]; exact this
        have HCALL := Aside0.mk (rparts1 hr2 (n := c - 1) (by have := HC.out; omega) (by omega) (fun y hy => HBB.out y (by rw [HE2.out]; exact List.mem_cons_of_mem _ (List.mem_append_left _ hy))))
        clear hr2 hA2 hi1 hi2 hZt hZ1 x2_
        go_upto_region 18 with (first | (go_at_call 28; (with_reducible refine HCALL.out.mono ?_); rintro en x2 ⟨A9, m9, n9, rfl, hb2_, hq_⟩; have n0_ := Aside0.mk (blk_below H1.out hb2_); have n1_ := Aside0.mk (HB.out.trans (hb2_.mono HB.out.size)); have HQ := Aside0.mk hq_; have HZ2 := Aside0.mk (show w1.heap.size ≤ x2.heap.size from hb2_.size); have HLT := Aside0.mk (blk_lt H1.out); clear H1 HB HCALL hb2_ hq_; have H1 := n0_; have HB := n1_; clear n0_ n1_))
        clear cut
        by_cases he : (partsG rd1 b.length 0 (cu b)).1.e = 0
        · have hw : within (partsG rd1 b.length 0 (cu b)).1.e = 0 := by rw [he]; rfl
          rw [hw]
          obtain ⟨em9, hn9, hC9, hG9⟩ := HQ.out he
          have HE0 := Aside0.mk he
          clear hw he HQ
          have EM := Aside0.mk em9
          have HN9 := Aside0.mk hn9
          have HC9 := Aside0.mk hC9
          have HG9 := Aside0.mk hG9
          clear em9 hn9 hC9 hG9
          by_cases hx : x = []
          · have gl : decide ((l.length : Int) > (m : Int) + 1) = false := decide_eq_false (by have := HXX.out; rw [hx] at this; simp at this; omega)
            have glb : decide ((m : Int) + 1 < (l.length : Int)) = false := gl
            have HX := Aside0.mk hx
            clear hx
            have IR : Aside0 (∀ W', Kept x2 W' (fun k => k < w1.heap.size) → IsMsg W' ((codeC 20).setIfInBounds 15 (.slice A9 m9 n9)) { ({ zeroM with code := 20 } : Msg) with recs := (partsG rd1 b.length 0 (cu b)).2 }) := ⟨fun W' hk => by rw [EM.out]; exact set_recs (codeC_is (by decide) W') (by rw [← EM.out]; exact HN9.out) HG9.out (by have := HC9.out W' hk; rw [EM.out] at this; exact this)⟩
            have EX := Aside0.mk (show parse 1 20 l = ({ zeroM with code := 20, recs := (partsG rd1 b.length 0 (cu b)).2 }, 0) from HP.out.trans (by rw [HE2.out, HX.out, List.append_nil]; exact out_ok HM2.out HE0.out))
            go_wp2_with (first | ((with_reducible refine gate_dst (N := 100) rfl ?_); refine ev_build ((codeC 20).setIfInBounds 15 (.slice A9 m9 n9)) rfl (by go_simp; first | rfl | done) ?_; intro cz hcz_; have CZ := Aside0.mk hcz_; clear hcz_) | ((with_reducible refine gate_op (u := .store 30 (.tmp 6) (.tmp 100)) rfl ?_); refine Same.wpList_store_row 30 (.tmp 6) (.tmp 100) rfl rfl rfl rfl H1.out (by rw [CZ.out]; rfl) (msg_info (by rw [CZ.out]; rfl)) (by rw [CZ.out]; exact (IR.out x2 (Kept.refl _ _)).one) ?_; intro y9 h3_ h4_; have HZ := Aside0.mk h3_; have HW := Aside0.mk (HB.out.trans (h4_.below (by have := HG.out; omega) HB.out.size)); have HUP := Aside0.mk h4_; clear h3_ h4_))
            refine bodyPost_ret (results_ct rfl _ _ gr 30 cz (0, 0) _ rfl HZ.out Try.underlying30 rfl (msg_info (by rw [CZ.out]; rfl))) rfl ⟨cz, by rw [EX.out]; rfl, by rw [EX.out, CZ.out]; exact IR.out _ (HUP.out.kept.mono fun j hj => by have := HLT.out; omega), HW.out⟩
          · have gl : decide ((l.length : Int) > (m : Int) + 1) = true := decide_eq_true (by have := HXX.out; have := List.length_pos_iff.2 hx; omega)
            have glb : decide ((m : Int) + 1 < (l.length : Int)) = true := gl
            have HX := Aside0.mk hx
            clear hx
            have EX := Aside0.mk (show parse 1 20 l = (zeroM, 3) from HP.out.trans (by rw [HE2.out]; exact out_err (body_long HM2.out HE0.out HX.out) (by decide)))
            go_wp2_with (first | ((with_reducible refine gate_dst (N := 97) rfl ?_); refine ev_build (zeroC) rfl (by go_simp; first | rfl | done) ?_; intro cz hcz_; have CZ := Aside0.mk hcz_; clear hcz_) | ((with_reducible refine gate_op (u := .store 30 (.tmp 6) (.tmp 97)) rfl ?_); refine Same.wpList_store_row 30 (.tmp 6) (.tmp 97) rfl rfl rfl rfl H1.out (by rw [CZ.out]) (msg_info (by rw [CZ.out]; rfl)) (by rw [CZ.out]; exact (zero_is w0).one) ?_; intro y9 h3_ h4_; have HZ := Aside0.mk h3_; have HW := Aside0.mk (HB.out.trans (h4_.below (by have := HG.out; omega) HB.out.size)); clear h3_ h4_))
            refine bodyPost_ret (results_ct rfl _ _ gr 30 cz (0, 0) _ rfl HZ.out Try.underlying30 rfl (msg_info (by rw [CZ.out]; rfl))) rfl ⟨cz, by rw [EX.out]; rfl, by rw [EX.out, CZ.out]; exact zero_is _, HW.out⟩
        · have HE0 := Aside0.mk he
          obtain ⟨ev, eev_⟩ : ∃ z, z = within (partsG rd1 b.length 0 (cu b)).1.e := ⟨_, rfl⟩
          rw [← eev_]
          have EV := Aside0.mk eev_
          have gv : (ev != 0) = true := by rw [eev_]; simpa using within_no he
          clear he eev_ HQ
          have EX := Aside0.mk (show parse 1 20 l = (zeroM, ev) from HP.out.trans (by rw [HE2.out, EV.out]; exact out_err (body_bad HM2.out HE0.out) (within_no HE0.out)))
          go_wp2_with (first | ((with_reducible refine gate_dst (N := 90) rfl ?_); refine ev_build (zeroC) rfl (by go_simp; first | rfl | done) ?_; intro cz hcz_; have CZ := Aside0.mk hcz_; clear hcz_) | ((with_reducible refine gate_op (u := .store 30 (.tmp 6) (.tmp 90)) rfl ?_); refine Same.wpList_store_row 30 (.tmp 6) (.tmp 90) rfl rfl rfl rfl H1.out (by rw [CZ.out]) (msg_info (by rw [CZ.out]; rfl)) (by rw [CZ.out]; exact (zero_is w0).one) ?_; intro y9 h3_ h4_; have HZ := Aside0.mk h3_; have HW := Aside0.mk (HB.out.trans (h4_.below (by have := HG.out; omega) HB.out.size)); clear h3_ h4_))
          refine bodyPost_ret (results_ct rfl _ _ gr 30 cz (0, 0) _ rfl HZ.out Try.underlying30 rfl (msg_info (by rw [CZ.out]; rfl))) rfl ⟨cz, by rw [EX.out]; rfl, by rw [EX.out, CZ.out]; exact zero_is _, HW.out⟩
theorem rparse_0_21 {A : Option Addr} {c : Nat} {l : List Int} {w0 : World} (hr : Kd.C (Kd.int .u8) w0 A l.length l) (hc : l.length ≤ c) (hs : l.length ≤ 1000000) (hb : isBytes l) :
    Calls Try.prog 13 #[.int .i64 0, .int .u8 21, .slice A l.length c] w0 fun en w' => ∃ cx, en = .returned (.tuple #[.agg cx, .int .i64 (parse 0 21 l).2]) ∧ IsMsg w' cx (parse 0 21 l).1 ∧ Below w0.heap.size w0 w' := by
  have HR := Aside0.mk hr
  have HC := Aside0.mk hc
  have HS := Aside0.mk hs
  have HBB := Aside0.mk hb
  clear hr hc hb
  have HP : Aside0 (parse 0 21 l = outc 21 (body rd2 may2 l)) := ⟨rfl⟩
  go_enter Try.func13, Try.ntmps13
  go_upto_region 5 with (first | ((with_reducible refine gate_dst (N := 6) rfl ?_); refine ev_alloc rfl rfl ?_; intro gr w1 hg_ h1_ h2_; have HG := Aside0.mk hg_; have H1 := Aside0.mk h1_; have HB := Aside0.mk h2_; clear hg_ h1_ h2_))
  by_cases hl : l = []
  · have g1 : ((l.length : Int) == 0) = true := by rw [hl]; rfl
    have HL := Aside0.mk hl
    clear hl hs
    have EX := Aside0.mk (show parse 0 21 l = (zeroM, 2) from HP.out.trans (by rw [HL.out]; exact out_err (body_none _ _) (by decide)))
    go_wp2_with (first | ((with_reducible refine gate_dst (N := 29) rfl ?_); refine ev_build (zeroC) rfl (by go_simp; first | rfl | done) ?_; intro cz hcz_; have CZ := Aside0.mk hcz_; clear hcz_) | ((with_reducible refine gate_op (u := .store 30 (.tmp 6) (.tmp 29)) rfl ?_); refine Same.wpList_store_row 30 (.tmp 6) (.tmp 29) rfl rfl rfl rfl H1.out (by rw [CZ.out]) (msg_info (by rw [CZ.out]; rfl)) (by rw [CZ.out]; exact (zero_is w0).one) ?_; intro y9 h3_ h4_; have HZ := Aside0.mk h3_; have HW := Aside0.mk (HB.out.trans (h4_.below (by have := HG.out; omega) HB.out.size)); clear h3_ h4_))
    refine bodyPost_ret (results_ct rfl _ _ gr 30 cz (0, 0) _ rfl HZ.out Try.underlying30 rfl (msg_info (by rw [CZ.out]; rfl))) rfl ⟨cz, by rw [EX.out]; rfl, by rw [EX.out, CZ.out]; exact zero_is _, HW.out⟩
  · have hlp := List.length_pos_iff.2 hl
    have g1 : ((l.length : Int) == 0) = false := beq_eq_false_iff_ne.2 (by omega)
    obtain ⟨he_, lo_, hi_⟩ := head_is hl HBB.out
    obtain ⟨ad, eA, kc⟩ := first_at (Kd.C_below HR.out HB.out) hl
    obtain ⟨n, en_⟩ : ∃ z, z = l.getD 0 0 := ⟨_, rfl⟩
    obtain ⟨t, et_⟩ : ∃ z, z = l.drop 1 := ⟨_, rfl⟩
    rw [← en_, ← et_] at he_
    rw [← en_] at lo_ hi_ kc
    have HE := Aside0.mk he_
    have ET := Aside0.mk et_
    have HLL := Aside0.mk (show l.length = t.length + 1 by rw [he_]; rfl)
    have HL0 := Aside0.mk hl
    clear he_ et_ en_ hl
    subst eA
    have wk : wrap64 n = n := wrap64_id (by omega) (by omega)
    have wkb : IntKind.i64.wrap n = n := by rw [i64_w]; exact wk
    have dl : decide ((0 : Int) < (l.length : Int)) = true := decide_eq_true (by omega)
    go_upto_region 8 with (fail)
    clear kc
    go_cut [9] from 34 to 39 (fun v9_ wx => v9_ = .bool (may2 n) ∧ w1 = wx)
    case first =>
      by_cases ca : n < 9
      · have q0 : decide (9 ≤ n) = false := decide_eq_false (by omega)
        have q0b : decide (n ≥ 9) = false := q0
        have em : may2 n = false := by simp [may2, q0]
        go_wp2
        go_meet
        exact ⟨by rw [em], rfl⟩
      · by_cases cb : n < 252
        · have q0 : decide (9 ≤ n) = true := decide_eq_true (by omega)
          have q0b : decide (n ≥ 9) = true := q0
          have q1 : decide (n ≤ 251) = true := decide_eq_true (by omega)
          have em : may2 n = true := by simp [may2, q0, q1]
          go_wp2
          go_meet
          exact ⟨by rw [em], rfl⟩
        · have q0 : decide (9 ≤ n) = true := decide_eq_true (by omega)
          have q0b : decide (n ≥ 9) = true := q0
          have q1 : decide (n ≤ 251) = false := decide_eq_false (by omega)
          have em : may2 n = false := by simp [may2, q0, q1]
          go_wp2
          go_meet
          exact ⟨by rw [em], rfl⟩
    case rest =>
    obtain ⟨e9_, ew_⟩ := hcut
    subst e9_
    subst ew_
    cases hm : may2 n with
    | false =>
      have HM := Aside0.mk hm
      have EX := Aside0.mk (show parse 0 21 l = (zeroM, 5) from HP.out.trans (by rw [HE.out]; exact out_err (body_no HM.out) (by decide)))
      go_wp2_with (first | ((with_reducible refine gate_dst (N := 71) rfl ?_); refine ev_build (zeroC) rfl (by go_simp; first | rfl | done) ?_; intro cz hcz_; have CZ := Aside0.mk hcz_; clear hcz_) | ((with_reducible refine gate_op (u := .store 30 (.tmp 6) (.tmp 71)) rfl ?_); refine Same.wpList_store_row 30 (.tmp 6) (.tmp 71) rfl rfl rfl rfl H1.out (by rw [CZ.out]) (msg_info (by rw [CZ.out]; rfl)) (by rw [CZ.out]; exact (zero_is w0).one) ?_; intro y9 h3_ h4_; have HZ := Aside0.mk h3_; have HW := Aside0.mk (HB.out.trans (h4_.below (by have := HG.out; omega) HB.out.size)); clear h3_ h4_))
      refine bodyPost_ret (results_ct rfl _ _ gr 30 cz (0, 0) _ rfl HZ.out Try.underlying30 rfl (msg_info (by rw [CZ.out]; rfl))) rfl ⟨cz, by rw [EX.out]; rfl, by rw [EX.out, CZ.out]; exact zero_is _, HW.out⟩
    | true =>
      have HM := Aside0.mk hm
      have ml : 4 ≤ n ∧ n ≤ 251 := by simp only [may2, Bool.and_eq_true, decide_eq_true_eq] at hm; omega
      have w1_ : wrap64 (n + 1) = n + 1 := wrap64_id (by omega) (by omega)
      have w1b : IntKind.i64.wrap (n + 1) = n + 1 := by rw [i64_w]; exact w1_
      by_cases hsh : (l.length : Int) < n + 1
      · have gs : decide ((l.length : Int) < n + 1) = true := decide_eq_true hsh
        have HSH := Aside0.mk (show (t.length : Int) < n by have := HLL.out; omega)
        clear hsh
        have EX := Aside0.mk (show parse 0 21 l = (zeroM, 2) from HP.out.trans (by rw [HE.out]; exact out_err (body_short HM.out HSH.out) (by decide)))
        go_wp2_with (first | ((with_reducible refine gate_dst (N := 77) rfl ?_); refine ev_build (zeroC) rfl (by go_simp; first | rfl | done) ?_; intro cz hcz_; have CZ := Aside0.mk hcz_; clear hcz_) | ((with_reducible refine gate_op (u := .store 30 (.tmp 6) (.tmp 77)) rfl ?_); refine Same.wpList_store_row 30 (.tmp 6) (.tmp 77) rfl rfl rfl rfl H1.out (by rw [CZ.out]) (msg_info (by rw [CZ.out]; rfl)) (by rw [CZ.out]; exact (zero_is w0).one) ?_; intro y9 h3_ h4_; have HZ := Aside0.mk h3_; have HW := Aside0.mk (HB.out.trans (h4_.below (by have := HG.out; omega) HB.out.size)); clear h3_ h4_))
        refine bodyPost_ret (results_ct rfl _ _ gr 30 cz (0, 0) _ rfl HZ.out Try.underlying30 rfl (msg_info (by rw [CZ.out]; rfl))) rfl ⟨cz, by rw [EX.out]; rfl, by rw [EX.out, CZ.out]; exact zero_is _, HW.out⟩
      · have gs : decide ((l.length : Int) < n + 1) = false := decide_eq_false hsh
        obtain ⟨m, em_⟩ := Int.eq_ofNat_of_zero_le lo_
        subst em_
        obtain ⟨x1_, x2_, x3_⟩ := mid_is (l := l) (m := m) (by omega)
        rw [← ET.out] at x1_ x2_ x3_
        obtain ⟨b, eb_⟩ : ∃ z, z = t.take m := ⟨_, rfl⟩
        obtain ⟨x, ex_⟩ : ∃ z, z = t.drop m := ⟨_, rfl⟩
        rw [← eb_] at x1_ x2_ x3_
        rw [← ex_] at x3_
        have X1 := Aside0.mk x1_
        have X2 := Aside0.mk x2_
        have HE2 : Aside0 (l = (b.length : Int) :: (b ++ x)) := ⟨by rw [x2_, ← x3_]; exact HE.out⟩
        have HM2 : Aside0 (may2 (b.length : Int) = true) := ⟨by rw [x2_]; exact HM.out⟩
        have HXX := Aside0.mk (show l.length = m + 1 + x.length by rw [HE2.out]; simp [x2_]; omega)
        clear eb_ ex_ x3_ x1_ HE ET
        obtain ⟨i, hi1, hi2⟩ := u8_info
        have cut := cut_mid 22 5 .i64 .i64 Try.underlying22 hi1 1 hi2 (some ad) l.length c 1 ((m : Int) + 1) (by omega) (by omega) (by omega) HC.out
        have hZt : ((m : Int) + 1).toNat - (1 : Int).toNat = b.length := by rw [x2_]; omega
        have hZ1 : (1 : Int).toNat = 1 := rfl
        rw [hZt, hZ1] at cut
        obtain ⟨A2, hA2⟩ : ∃ A2, A2 = if c = 1 then some ad else (some ad : Option Addr).map fun x => x.add (1 * 1) := ⟨_, rfl⟩
        rw [← hA2] at cut
        have hr2 : Kd.C (Kd.int .u8) w1 A2 b.length b := by have := Kd.C_mid (lo := 1) (hi := m + 1) (Kd.C_below HR.out HB.out) (by omega) (by omega) HC.out; rw [X1.out] at this; rw [hA2]; exact this
        have HCALL := Aside0.mk (rparts2 (dir := 0) hr2 (n := c - 1) (by have := HC.out; omega) (by omega) (fun y hy => HBB.out y (by rw [HE2.out]; exact List.mem_cons_of_mem _ (List.mem_append_left _ hy))))
        clear hr2 hA2 hi1 hi2 hZt hZ1 x2_
        go_upto_region 18 with (first | (go_at_call 28; (with_reducible refine HCALL.out.mono ?_); rintro en x2 ⟨A9, m9, n9, rfl, hb2_, hq_⟩; have n0_ := Aside0.mk (blk_below H1.out hb2_); have n1_ := Aside0.mk (HB.out.trans (hb2_.mono HB.out.size)); have HQ := Aside0.mk hq_; have HZ2 := Aside0.mk (show w1.heap.size ≤ x2.heap.size from hb2_.size); have HLT := Aside0.mk (blk_lt H1.out); clear H1 HB HCALL hb2_ hq_; have H1 := n0_; have HB := n1_; clear n0_ n1_))
        clear cut
        by_cases he : (partsG rd2 b.length 0 (cu b)).1.e = 0
        · have hw : within (partsG rd2 b.length 0 (cu b)).1.e = 0 := by rw [he]; rfl
          rw [hw]
          obtain ⟨em9, hn9, hC9, hG9⟩ := HQ.out he
          have HE0 := Aside0.mk he
          clear hw he HQ
          have EM := Aside0.mk em9
          have HN9 := Aside0.mk hn9
          have HC9 := Aside0.mk hC9
          have HG9 := Aside0.mk hG9
          clear em9 hn9 hC9 hG9
          by_cases hx : x = []
          · have gl : decide ((l.length : Int) > (m : Int) + 1) = false := decide_eq_false (by have := HXX.out; rw [hx] at this; simp at this; omega)
            have glb : decide ((m : Int) + 1 < (l.length : Int)) = false := gl
            have HX := Aside0.mk hx
            clear hx
            have IR : Aside0 (∀ W', Kept x2 W' (fun k => k < w1.heap.size) → IsMsg W' ((codeC 21).setIfInBounds 15 (.slice A9 m9 n9)) { ({ zeroM with code := 21 } : Msg) with recs := (partsG rd2 b.length 0 (cu b)).2 }) := ⟨fun W' hk => by rw [EM.out]; exact set_recs (codeC_is (by decide) W') (by rw [← EM.out]; exact HN9.out) HG9.out (by have := HC9.out W' hk; rw [EM.out] at this; exact this)⟩
            have EX := Aside0.mk (show parse 0 21 l = ({ zeroM with code := 21, recs := (partsG rd2 b.length 0 (cu b)).2 }, 0) from HP.out.trans (by rw [HE2.out, HX.out, List.append_nil]; exact out_ok HM2.out HE0.out))
            go_wp2_with (first | ((with_reducible refine gate_dst (N := 100) rfl ?_); refine ev_build ((codeC 21).setIfInBounds 15 (.slice A9 m9 n9)) rfl (by go_simp; first | rfl | done) ?_; intro cz hcz_; have CZ := Aside0.mk hcz_; clear hcz_) | ((with_reducible refine gate_op (u := .store 30 (.tmp 6) (.tmp 100)) rfl ?_); refine Same.wpList_store_row 30 (.tmp 6) (.tmp 100) rfl rfl rfl rfl H1.out (by rw [CZ.out]; rfl) (msg_info (by rw [CZ.out]; rfl)) (by rw [CZ.out]; exact (IR.out x2 (Kept.refl _ _)).one) ?_; intro y9 h3_ h4_; have HZ := Aside0.mk h3_; have HW := Aside0.mk (HB.out.trans (h4_.below (by have := HG.out; omega) HB.out.size)); have HUP := Aside0.mk h4_; clear h3_ h4_))
            refine bodyPost_ret (results_ct rfl _ _ gr 30 cz (0, 0) _ rfl HZ.out Try.underlying30 rfl (msg_info (by rw [CZ.out]; rfl))) rfl ⟨cz, by rw [EX.out]; rfl, by rw [EX.out, CZ.out]; exact IR.out _ (HUP.out.kept.mono fun j hj => by have := HLT.out; omega), HW.out⟩
          · have gl : decide ((l.length : Int) > (m : Int) + 1) = true := decide_eq_true (by have := HXX.out; have := List.length_pos_iff.2 hx; omega)
            have glb : decide ((m : Int) + 1 < (l.length : Int)) = true := gl
            have HX := Aside0.mk hx
            clear hx
            have EX := Aside0.mk (show parse 0 21 l = (zeroM, 3) from HP.out.trans (by rw [HE2.out]; exact out_err (body_long HM2.out HE0.out HX.out) (by decide)))
            go_wp2_with (first | ((with_reducible refine gate_dst (N := 97) rfl ?_); refine ev_build (zeroC) rfl (by go_simp; first | rfl | done) ?_; intro cz hcz_; have CZ := Aside0.mk hcz_; clear hcz_) | ((with_reducible refine gate_op (u := .store 30 (.tmp 6) (.tmp 97)) rfl ?_); refine Same.wpList_store_row 30 (.tmp 6) (.tmp 97) rfl rfl rfl rfl H1.out (by rw [CZ.out]) (msg_info (by rw [CZ.out]; rfl)) (by rw [CZ.out]; exact (zero_is w0).one) ?_; intro y9 h3_ h4_; have HZ := Aside0.mk h3_; have HW := Aside0.mk (HB.out.trans (h4_.below (by have := HG.out; omega) HB.out.size)); clear h3_ h4_))
            refine bodyPost_ret (results_ct rfl _ _ gr 30 cz (0, 0) _ rfl HZ.out Try.underlying30 rfl (msg_info (by rw [CZ.out]; rfl))) rfl ⟨cz, by rw [EX.out]; rfl, by rw [EX.out, CZ.out]; exact zero_is _, HW.out⟩
        · have HE0 := Aside0.mk he
          obtain ⟨ev, eev_⟩ : ∃ z, z = within (partsG rd2 b.length 0 (cu b)).1.e := ⟨_, rfl⟩
          rw [← eev_]
          have EV := Aside0.mk eev_
          have gv : (ev != 0) = true := by rw [eev_]; simpa using within_no he
          clear he eev_ HQ
          have EX := Aside0.mk (show parse 0 21 l = (zeroM, ev) from HP.out.trans (by rw [HE2.out, EV.out]; exact out_err (body_bad HM2.out HE0.out) (within_no HE0.out)))
          go_wp2_with (first | ((with_reducible refine gate_dst (N := 90) rfl ?_); refine ev_build (zeroC) rfl (by go_simp; first | rfl | done) ?_; intro cz hcz_; have CZ := Aside0.mk hcz_; clear hcz_) | ((with_reducible refine gate_op (u := .store 30 (.tmp 6) (.tmp 90)) rfl ?_); refine Same.wpList_store_row 30 (.tmp 6) (.tmp 90) rfl rfl rfl rfl H1.out (by rw [CZ.out]) (msg_info (by rw [CZ.out]; rfl)) (by rw [CZ.out]; exact (zero_is w0).one) ?_; intro y9 h3_ h4_; have HZ := Aside0.mk h3_; have HW := Aside0.mk (HB.out.trans (h4_.below (by have := HG.out; omega) HB.out.size)); clear h3_ h4_))
          refine bodyPost_ret (results_ct rfl _ _ gr 30 cz (0, 0) _ rfl HZ.out Try.underlying30 rfl (msg_info (by rw [CZ.out]; rfl))) rfl ⟨cz, by rw [EX.out]; rfl, by rw [EX.out, CZ.out]; exact zero_is _, HW.out⟩
theorem rparse_1_21 {A : Option Addr} {c : Nat} {l : List Int} {w0 : World} (hr : Kd.C (Kd.int .u8) w0 A l.length l) (hc : l.length ≤ c) (hs : l.length ≤ 1000000) (hb : isBytes l) :
    Calls Try.prog 13 #[.int .i64 1, .int .u8 21, .slice A l.length c] w0 fun en w' => ∃ cx, en = .returned (.tuple #[.agg cx, .int .i64 (parse 1 21 l).2]) ∧ IsMsg w' cx (parse 1 21 l).1 ∧ Below w0.heap.size w0 w' := by
  have HR := Aside0.mk hr
  have HC := Aside0.mk hc
  have HS := Aside0.mk hs
  have HBB := Aside0.mk hb
  clear hr hc hb
  have HP : Aside0 (parse 1 21 l = outc 21 (body rd2 may2 l)) := ⟨rfl⟩
  go_enter Try.func13, Try.ntmps13
  go_upto_region 5 with (first | ((with_reducible refine gate_dst (N := 6) rfl ?_); refine ev_alloc rfl rfl ?_; intro gr w1 hg_ h1_ h2_; have HG := Aside0.mk hg_; have H1 := Aside0.mk h1_; have HB := Aside0.mk h2_; clear hg_ h1_ h2_))
  by_cases hl : l = []
  · have g1 : ((l.length : Int) == 0) = true := by rw [hl]; rfl
    have HL := Aside0.mk hl
    clear hl hs
    have EX := Aside0.mk (show parse 1 21 l = (zeroM, 2) from HP.out.trans (by rw [HL.out]; exact out_err (body_none _ _) (by decide)))
    go_wp2_with (first | ((with_reducible refine gate_dst (N := 29) rfl ?_); refine ev_build (zeroC) rfl (by go_simp; first | rfl | done) ?_; intro cz hcz_; have CZ := Aside0.mk hcz_; clear hcz_) | ((with_reducible refine gate_op (u := .store 30 (.tmp 6) (.tmp 29)) rfl ?_); refine Same.wpList_store_row 30 (.tmp 6) (.tmp 29) rfl rfl rfl rfl H1.out (by rw [CZ.out]) (msg_info (by rw [CZ.out]; rfl)) (by rw [CZ.out]; exact (zero_is w0).one) ?_; intro y9 h3_ h4_; have HZ := Aside0.mk h3_; have HW := Aside0.mk (HB.out.trans (h4_.below (by have := HG.out; omega) HB.out.size)); clear h3_ h4_))
    refine bodyPost_ret (results_ct rfl _ _ gr 30 cz (0, 0) _ rfl HZ.out Try.underlying30 rfl (msg_info (by rw [CZ.out]; rfl))) rfl ⟨cz, by rw [EX.out]; rfl, by rw [EX.out, CZ.out]; exact zero_is _, HW.out⟩
  · have hlp := List.length_pos_iff.2 hl
    have g1 : ((l.length : Int) == 0) = false := beq_eq_false_iff_ne.2 (by omega)
    obtain ⟨he_, lo_, hi_⟩ := head_is hl HBB.out
    obtain ⟨ad, eA, kc⟩ := first_at (Kd.C_below HR.out HB.out) hl
    obtain ⟨n, en_⟩ : ∃ z, z = l.getD 0 0 := ⟨_, rfl⟩
    obtain ⟨t, et_⟩ : ∃ z, z = l.drop 1 := ⟨_, rfl⟩
    rw [← en_, ← et_] at he_
    rw [← en_] at lo_ hi_ kc
    have HE := Aside0.mk he_
    have ET := Aside0.mk et_
    have HLL := Aside0.mk (show l.length = t.length + 1 by rw [he_]; rfl)
    have HL0 := Aside0.mk hl
    clear he_ et_ en_ hl
    subst eA
    have wk : wrap64 n = n := wrap64_id (by omega) (by omega)
    have wkb : IntKind.i64.wrap n = n := by rw [i64_w]; exact wk
    have dl : decide ((0 : Int) < (l.length : Int)) = true := decide_eq_true (by omega)
    go_upto_region 8 with (fail)
    clear kc
    go_cut [9] from 34 to 39 (fun v9_ wx => v9_ = .bool (may2 n) ∧ w1 = wx)
    case first =>
      by_cases ca : n < 9
      · have q0 : decide (9 ≤ n) = false := decide_eq_false (by omega)
        have q0b : decide (n ≥ 9) = false := q0
        have em : may2 n = false := by simp [may2, q0]
        go_wp2
        go_meet
        exact ⟨by rw [em], rfl⟩
      · by_cases cb : n < 252
        · have q0 : decide (9 ≤ n) = true := decide_eq_true (by omega)
          have q0b : decide (n ≥ 9) = true := q0
          have q1 : decide (n ≤ 251) = true := decide_eq_true (by omega)
          have em : may2 n = true := by simp [may2, q0, q1]
          go_wp2
          go_meet
          exact ⟨by rw [em], rfl⟩
        · have q0 : decide (9 ≤ n) = true := decide_eq_true (by omega)
          have q0b : decide (n ≥ 9) = true := q0
          have q1 : decide (n ≤ 251) = false := decide_eq_false (by omega)
          have em : may2 n = false := by simp [may2, q0, q1]
          go_wp2
          go_meet
          exact ⟨by rw [em], rfl⟩
    case rest =>
    obtain ⟨e9_, ew_⟩ := hcut
    subst e9_
    subst ew_
    cases hm : may2 n with
    | false =>
      have HM := Aside0.mk hm
      have EX := Aside0.mk (show parse 1 21 l = (zeroM, 5) from HP.out.trans (by rw [HE.out]; exact out_err (body_no HM.out) (by decide)))
      go_wp2_with (first | ((with_reducible refine gate_dst (N := 71) rfl ?_); refine ev_build (zeroC) rfl (by go_simp; first | rfl | done) ?_; intro cz hcz_; have CZ := Aside0.mk hcz_; clear hcz_) | ((with_reducible refine gate_op (u := .store 30 (.tmp 6) (.tmp 71)) rfl ?_); refine Same.wpList_store_row 30 (.tmp 6) (.tmp 71) rfl rfl rfl rfl H1.out (by rw [CZ.out]) (msg_info (by rw [CZ.out]; rfl)) (by rw [CZ.out]; exact (zero_is w0).one) ?_; intro y9 h3_ h4_; have HZ := Aside0.mk h3_; have HW := Aside0.mk (HB.out.trans (h4_.below (by have := HG.out; omega) HB.out.size)); clear h3_ h4_))
      refine bodyPost_ret (results_ct rfl _ _ gr 30 cz (0, 0) _ rfl HZ.out Try.underlying30 rfl (msg_info (by rw [CZ.out]; rfl))) rfl ⟨cz, by rw [EX.out]; rfl, by rw [EX.out, CZ.out]; exact zero_is _, HW.out⟩
    | true =>
      have HM := Aside0.mk hm
      have ml : 4 ≤ n ∧ n ≤ 251 := by simp only [may2, Bool.and_eq_true, decide_eq_true_eq] at hm; omega
      have w1_ : wrap64 (n + 1) = n + 1 := wrap64_id (by omega) (by omega)
      have w1b : IntKind.i64.wrap (n + 1) = n + 1 := by rw [i64_w]; exact w1_
      by_cases hsh : (l.length : Int) < n + 1
      · have gs : decide ((l.length : Int) < n + 1) = true := decide_eq_true hsh
        have HSH := Aside0.mk (show (t.length : Int) < n by have := HLL.out; omega)
        clear hsh
        have EX := Aside0.mk (show parse 1 21 l = (zeroM, 2) from HP.out.trans (by rw [HE.out]; exact out_err (body_short HM.out HSH.out) (by decide)))
        go_wp2_with (first | ((with_reducible refine gate_dst (N := 77) rfl ?_); refine ev_build (zeroC) rfl (by go_simp; first | rfl | done) ?_; intro cz hcz_; have CZ := Aside0.mk hcz_; clear hcz_) | ((with_reducible refine gate_op (u := .store 30 (.tmp 6) (.tmp 77)) rfl ?_); refine Same.wpList_store_row 30 (.tmp 6) (.tmp 77) rfl rfl rfl rfl H1.out (by rw [CZ.out]) (msg_info (by rw [CZ.out]; rfl)) (by rw [CZ.out]; exact (zero_is w0).one) ?_; intro y9 h3_ h4_; have HZ := Aside0.mk h3_; have HW := Aside0.mk (HB.out.trans (h4_.below (by have := HG.out; omega) HB.out.size)); clear h3_ h4_))
        refine bodyPost_ret (results_ct rfl _ _ gr 30 cz (0, 0) _ rfl HZ.out Try.underlying30 rfl (msg_info (by rw [CZ.out]; rfl))) rfl ⟨cz, by rw [EX.out]; rfl, by rw [EX.out, CZ.out]; exact zero_is _, HW.out⟩
      · have gs : decide ((l.length : Int) < n + 1) = false := decide_eq_false hsh
        obtain ⟨m, em_⟩ := Int.eq_ofNat_of_zero_le lo_
        subst em_
        obtain ⟨x1_, x2_, x3_⟩ := mid_is (l := l) (m := m) (by omega)
        rw [← ET.out] at x1_ x2_ x3_
        obtain ⟨b, eb_⟩ : ∃ z, z = t.take m := ⟨_, rfl⟩
        obtain ⟨x, ex_⟩ : ∃ z, z = t.drop m := ⟨_, rfl⟩
        rw [← eb_] at x1_ x2_ x3_
        rw [← ex_] at x3_
        have X1 := Aside0.mk x1_
        have X2 := Aside0.mk x2_
        have HE2 : Aside0 (l = (b.length : Int) :: (b ++ x)) := ⟨by rw [x2_, ← x3_]; exact HE.out⟩
        have HM2 : Aside0 (may2 (b.length : Int) = true) := ⟨by rw [x2_]; exact HM.out⟩
        have HXX := Aside0.mk (show l.length = m + 1 + x.length by rw [HE2.out]; simp [x2_]; omega)
        clear eb_ ex_ x3_ x1_ HE ET
        obtain ⟨i, hi1, hi2⟩ := u8_info
        have cut := cut_mid 22 5 .i64 .i64 Try.underlying22 hi1 1 hi2 (some ad) l.length c 1 ((m : Int) + 1) (by omega) (by omega) (by omega) HC.out
        have hZt : ((m : Int) + 1).toNat - (1 : Int).toNat = b.length := by rw [x2_]; omega
        have hZ1 : (1 : Int).toNat = 1 := rfl
        rw [hZt, hZ1] at cut
        obtain ⟨A2, hA2⟩ : ∃ A2, A2 = if c = 1 then some ad else (some ad : Option Addr).map fun x => x.add (1 * 1) := ⟨_, rfl⟩
        rw [← hA2] at cut
        have hr2 : Kd.C (Kd.int .u8) w1 A2 b.length b := by have := Kd.C_mid (lo := 1) (hi := m + 1) (Kd.C_below HR.out HB.out) (by omega) (by omega) HC.out; rw [X1.out] at this; rw [hA2]; exact this
        have HCALL := Aside0.mk (rparts2 (dir := 1) hr2 (n := c - 1) (by have := HC.out; omega) (by omega) (fun y hy => HBB.out y (by rw [HE2.out]; exact List.mem_cons_of_mem _ (List.mem_append_left _ hy))))
        clear hr2 hA2 hi1 hi2 hZt hZ1 x2_
        go_upto_region 18 with (first | (go_at_call 28; (with_reducible refine HCALL.out.mono ?_); rintro en x2 ⟨A9, m9, n9, rfl, hb2_, hq_⟩; have n0_ := Aside0.mk (blk_below H1.out hb2_); have n1_ := Aside0.mk (HB.out.trans (hb2_.mono HB.out.size)); have HQ := Aside0.mk hq_; have HZ2 := Aside0.mk (show w1.heap.size ≤ x2.heap.size from hb2_.size); have HLT := Aside0.mk (blk_lt H1.out); clear H1 HB HCALL hb2_ hq_; have H1 := n0_; have HB := n1_; clear n0_ n1_))
        clear cut
        by_cases he : (partsG rd2 b.length 0 (cu b)).1.e = 0
        · have hw : within (partsG rd2 b.length 0 (cu b)).1.e = 0 := by rw [he]; rfl
          rw [hw]
          obtain ⟨em9, hn9, hC9, hG9⟩ := HQ.out he
          have HE0 := Aside0.mk he
          clear hw he HQ
          have EM := Aside0.mk em9
          have HN9 := Aside0.mk hn9
          have HC9 := Aside0.mk hC9
          have HG9 := Aside0.mk hG9
          clear em9 hn9 hC9 hG9
          by_cases hx : x = []
          · have gl : decide ((l.length : Int) > (m : Int) + 1) = false := decide_eq_false (by have := HXX.out; rw [hx] at this; simp at this; omega)
            have glb : decide ((m : Int) + 1 < (l.length : Int)) = false := gl
            have HX := Aside0.mk hx
            clear hx
            have IR : Aside0 (∀ W', Kept x2 W' (fun k => k < w1.heap.size) → IsMsg W' ((codeC 21).setIfInBounds 15 (.slice A9 m9 n9)) { ({ zeroM with code := 21 } : Msg) with recs := (partsG rd2 b.length 0 (cu b)).2 }) := ⟨fun W' hk => by rw [EM.out]; exact set_recs (codeC_is (by decide) W') (by rw [← EM.out]; exact HN9.out) HG9.out (by have := HC9.out W' hk; rw [EM.out] at this; exact this)⟩
            have EX := Aside0.mk (show parse 1 21 l = ({ zeroM with code := 21, recs := (partsG rd2 b.length 0 (cu b)).2 }, 0) from HP.out.trans (by rw [HE2.out, HX.out, List.append_nil]; exact out_ok HM2.out HE0.out))
            go_wp2_with (first | ((with_reducible refine gate_dst (N := 100) rfl ?_); refine ev_build ((codeC 21).setIfInBounds 15 (.slice A9 m9 n9)) rfl (by go_simp; first | rfl | done) ?_; intro cz hcz_; have CZ := Aside0.mk hcz_; clear hcz_) | ((with_reducible refine gate_op (u := .store 30 (.tmp 6) (.tmp 100)) rfl ?_); refine Same.wpList_store_row 30 (.tmp 6) (.tmp 100) rfl rfl rfl rfl H1.out (by rw [CZ.out]; rfl) (msg_info (by rw [CZ.out]; rfl)) (by rw [CZ.out]; exact (IR.out x2 (Kept.refl _ _)).one) ?_; intro y9 h3_ h4_; have HZ := Aside0.mk h3_; have HW := Aside0.mk (HB.out.trans (h4_.below (by have := HG.out; omega) HB.out.size)); have HUP := Aside0.mk h4_; clear h3_ h4_))
            refine bodyPost_ret (results_ct rfl _ _ gr 30 cz (0, 0) _ rfl HZ.out Try.underlying30 rfl (msg_info (by rw [CZ.out]; rfl))) rfl ⟨cz, by rw [EX.out]; rfl, by rw [EX.out, CZ.out]; exact IR.out _ (HUP.out.kept.mono fun j hj => by have := HLT.out; omega), HW.out⟩
          · have gl : decide ((l.length : Int) > (m : Int) + 1) = true := decide_eq_true (by have := HXX.out; have := List.length_pos_iff.2 hx; omega)
            have glb : decide ((m : Int) + 1 < (l.length : Int)) = true := gl
            have HX := Aside0.mk hx
            clear hx
            have EX := Aside0.mk (show parse 1 21 l = (zeroM, 3) from HP.out.trans (by rw [HE2.out]; exact out_err (body_long HM2.out HE0.out HX.out) (by decide)))
            go_wp2_with (first | ((with_reducible refine gate_dst (N := 97) rfl ?_); refine ev_build (zeroC) rfl (by go_simp; first | rfl | done) ?_; intro cz hcz_; have CZ := Aside0.mk hcz_; clear hcz_) | ((with_reducible refine gate_op (u := .store 30 (.tmp 6) (.tmp 97)) rfl ?_); refine Same.wpList_store_row 30 (.tmp 6) (.tmp 97) rfl rfl rfl rfl H1.out (by rw [CZ.out]) (msg_info (by rw [CZ.out]; rfl)) (by rw [CZ.out]; exact (zero_is w0).one) ?_; intro y9 h3_ h4_; have HZ := Aside0.mk h3_; have HW := Aside0.mk (HB.out.trans (h4_.below (by have := HG.out; omega) HB.out.size)); clear h3_ h4_))
            refine bodyPost_ret (results_ct rfl _ _ gr 30 cz (0, 0) _ rfl HZ.out Try.underlying30 rfl (msg_info (by rw [CZ.out]; rfl))) rfl ⟨cz, by rw [EX.out]; rfl, by rw [EX.out, CZ.out]; exact zero_is _, HW.out⟩
        · have HE0 := Aside0.mk he
          obtain ⟨ev, eev_⟩ : ∃ z, z = within (partsG rd2 b.length 0 (cu b)).1.e := ⟨_, rfl⟩
          rw [← eev_]
          have EV := Aside0.mk eev_
          have gv : (ev != 0) = true := by rw [eev_]; simpa using within_no he
          clear he eev_ HQ
          have EX := Aside0.mk (show parse 1 21 l = (zeroM, ev) from HP.out.trans (by rw [HE2.out, EV.out]; exact out_err (body_bad HM2.out HE0.out) (within_no HE0.out)))
          go_wp2_with (first | ((with_reducible refine gate_dst (N := 90) rfl ?_); refine ev_build (zeroC) rfl (by go_simp; first | rfl | done) ?_; intro cz hcz_; have CZ := Aside0.mk hcz_; clear hcz_) | ((with_reducible refine gate_op (u := .store 30 (.tmp 6) (.tmp 90)) rfl ?_); refine Same.wpList_store_row 30 (.tmp 6) (.tmp 90) rfl rfl rfl rfl H1.out (by rw [CZ.out]) (msg_info (by rw [CZ.out]; rfl)) (by rw [CZ.out]; exact (zero_is w0).one) ?_; intro y9 h3_ h4_; have HZ := Aside0.mk h3_; have HW := Aside0.mk (HB.out.trans (h4_.below (by have := HG.out; omega) HB.out.size)); clear h3_ h4_))
          refine bodyPost_ret (results_ct rfl _ _ gr 30 cz (0, 0) _ rfl HZ.out Try.underlying30 rfl (msg_info (by rw [CZ.out]; rfl))) rfl ⟨cz, by rw [EX.out]; rfl, by rw [EX.out, CZ.out]; exact zero_is _, HW.out⟩
theorem rparse_any {dir code : Int} {A : Option Addr} {c : Nat} {l : List Int} {w0 : World} (hr : Kd.C (Kd.int .u8) w0 A l.length l) (hc : l.length ≤ c) (hs : l.length ≤ 1000000) (hb : isBytes l) :
    Calls Try.prog 13 #[.int .i64 dir, .int .u8 code, .slice A l.length c] w0 fun en w' => ∃ cx, en = .returned (.tuple #[.agg cx, .int .i64 (parse dir code l).2]) ∧ IsMsg w' cx (parse dir code l).1 ∧ Below w0.heap.size w0 w' := by
  by_cases h2 : dir ≠ 0 ∧ dir ≠ 1
  · exact rparse_dir hr hc hs hb h2.1 h2.2
  have h4 : dir = 0 ∨ dir = 1 := by omega
  by_cases h3 : code ≠ 20 ∧ code ≠ 21
  · rcases h4 with rfl | rfl
    · exact rparse_no0 hr hc hs hb h3.1 h3.2
    · exact rparse_no1 hr hc hs hb h3.1 h3.2
  have h5 : code = 20 ∨ code = 21 := by omega
  rcases h4 with rfl | rfl <;> rcases h5 with rfl | rfl
  · exact rparse_0_20 hr hc hs hb
  · exact rparse_0_21 hr hc hs hb
  · exact rparse_1_20 hr hc hs hb
  · exact rparse_1_21 hr hc hs hb
end Go.Proofs.Ytdjeekpgcjcffaa.Fil
end
