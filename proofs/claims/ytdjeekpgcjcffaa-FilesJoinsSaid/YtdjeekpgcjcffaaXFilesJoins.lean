/- The law FilesJoins: its walk, and the plain law. Conditions: what each theorem states. -/
import Derived.Test.YtdjeekpgcjcffaaUD
set_option linter.unusedVariables false
set_option linter.unusedSimpArgs false
set_option maxHeartbeats 16000000
set_option maxRecDepth 100000
section
namespace Go.Proofs.Ytdjeekpgcjcffaa.Laws
open Go.RowKit Go.Proofs.Ytdjeekpgcjcffaa.P Go.Proofs.Ytdjeekpgcjcffaa.E Go.Proofs.Ytdjeekpgcjcffaa.Cur Go.Proofs.Ytdjeekpgcjcffaa.Cu Go.Proofs.Ytdjeekpgcjcffaa.Same Go.Proofs.Ytdjeekpgcjcffaa.Put Go.Proofs.Ytdjeekpgcjcffaa.Com Go.Proofs.Ytdjeekpgcjcffaa.Fil Go.Proofs.YtdjeekpgcjcffaaW.PrintWords Go.Proofs.YtdjeekpgcjcffaaW.PrintLast Go.Proofs.YtdjeekpgcjcffaaW.PrintMore
def joins.T17 : Bool × List (List Nat × List Nat) := (true, [([], []), ([0], [0]), ([1], [1]), ([2, 1], [1, 2]), ([1, 3], [1, 3]), ([4, 1], [4]), ([5], [5]), ([5], [5]), ([7, 5], [5, 7]), ([8, 5], [5, 8]), ([5], [5]), ([10, 5], [5, 10]), ([9, 11, 5, 5], [5, 9, 11]), ([5], [5]), ([13, 5], [5, 13]), ([12, 14, 12, 5], [5, 12, 14]), ([6, 15, 15, 5], [5, 6, 15]), ([5, 16], [5, 16]), ([17, 16, 0, 1, 2, 3, 4, 5, 6, 7, 8, 9, 10, 11, 12, 13, 14, 15, 16, 17], [17])])
def joins.B17 : List Nat := [0, 1, 3, 7, 15, 31, 63, 63, 191, 447, 63, 1087, 4031, 63, 8255, 32703, 65535, 131071, 262143]
theorem joins.tab17 : rtab .any (opsOf Try.f9 17) = joins.T17 := by kernel_rfl
theorem joins.bits17 : waitsOk joins.T17.2 joins.B17 = true := by kernel_rfl
theorem join_bytes {nn : Nat} {fa fb : List Int} (ha : isBytes fa) (hb : isBytes fb) (h : nn ≤ 251) : isBytes ((nn : Int) :: (fa ++ fb)) := fun x hx => by
  rcases List.mem_cons.1 hx with rfl | hx
  · omega
  · exact (List.mem_append.1 hx).elim (ha x) (hb x)
theorem ev_rapp2 {ops : Array Oper} {rest : List Oper} {o : Oper} {a : Act} {w : World} {Q : Exit → Act → World → Prop} {B n c : Nat} {A : Option Addr} {v : Value} {raws ys : List RawR} (s x : Operand) (hgd : o.guard = none) (ho : o.op = .call { callee := .builtin .append, args := #[s, x], argTypes := #[27, 27] }) (hs : a.eval s = v) (hx : a.eval x = .slice A n c) (R : Kd.R kRawR 43 w B (fun k => B ≤ k) v raws) (HB : B ≤ w.heap.size) (hy : Kd.C kRawR w A n ys) (hl : raws.length + n ≤ 1000000) {m : Nat} (hm : (raws ++ ys).length = m)
    (h : ∀ A1 n1 w1, Kd.R kRawR 43 w1 B (fun k => B ≤ k) (.slice A1 m n1) (raws ++ ys) → Below B w w1 → wpList Try.prog ops Q rest (a.put o.dst (.slice A1 m n1)) w1) : wpList Try.prog ops Q (o :: rest) a w := by
  subst hm
  refine ev_rapp s x hgd ho hs hx R HB hy hl fun v1 w1 r b => ?_
  obtain ⟨A1, n1, e, _, _⟩ := Kd.R_reads r
  rw [e] at r ⊢
  exact h A1 n1 w1 r b
theorem few_len {l : List S43} (hf : fewB (mkF 21 l) = true) : l.length ≤ 50 := (echo_len hf).1
theorem few_n {l : List S43} {v : Bool} (h : fewB (mkF 21 l) = v) {cx : Array Value} {W : World} (hm : IsMsg W cx { zeroM with recs := l }) : Calls Try.prog 15 #[.agg cx] W fun e w' => e = .returned (.bool v) ∧ Below W.heap.size W w' := by
  have e : fewB { zeroM with recs := l } = v := h
  have := few_msg hm
  rw [e] at this
  exact this
theorem Joins_na {response : Bool} {A B : Option Addr} {ca cb : Nat} {a b : List S43} {w : World} (hra : Kd.C k43 w A a.length a) (hca : a.length ≤ ca) (hrb : Kd.C k43 w B b.length b) (hcb : b.length ≤ cb) (ha : ∀ x ∈ a, goodRec x) (hb : ∀ x ∈ b, goodRec x) {vb : Bool} (hfa : fewB (mkF 21 a) = false) (hfb : fewB (mkF 21 b) = vb) :
    Calls Try.prog 9 #[.bool response, .slice A a.length ca, .slice B b.length cb] w fun en w' => en = .returned (.bool true) ∧ Below w.heap.size w w' := by
  have Hca := Aside0.mk hca
  have Hcb := Aside0.mk hcb
  have Ga := Aside0.mk ha
  have Gb := Aside0.mk hb
  have HRA := Aside0.mk hra
  have HRB := Aside0.mk hrb
  have H := Aside0.mk (Hd.start w)
  have n0_ := Aside0.mk (((H.out).add (sta_R _ _ _) (hra)).add (sta_R _ _ _) (hrb))
  clear H
  have H := n0_
  clear n0_
  clear hra hca hrb hcb ha hb
  have HFA := Aside0.mk hfa
  have HFB := Aside0.mk hfb
  clear hfa hfb
  go_enter Try.func9, Try.ntmps9
  go_upto_region 2 with (first | (go_at_call 11; (with_reducible refine (AwakeC.c awake_c _).mono ?_); rintro en wa ⟨rfl, hb_⟩; have n0_ := Aside0.mk (H.out.on hb_); clear H; have H := n0_; clear n0_; clear hb_))
  go_upto_region 3 with (first | ((with_reducible refine gate_dst (N := 20) rfl ?_); (try (refine gate_guard (by rfl) ?_; dsimp only)); refine ev_build (zeroC.setIfInBounds 15 (.slice A a.length ca)) rfl (by first | (go_simp; done) | (go_simp; rfl)) ?_; intro cy hcx_; have mx_ := (show IsMsg _ (zeroC.setIfInBounds 15 (.slice A a.length ca)) ({ zeroM with recs := a }) from (set_recs (zero_is _) (n := ca) Hca.out (fun o ho => Ga.out o ho) (H.out.f.1.2))); rw [← hcx_] at mx_; have n0_ := Aside0.mk ((H.out).add (sta_msg _ _) (mx_)); clear H; have H := n0_; clear n0_; clear hcx_ mx_) | (go_at_call 15; (with_reducible refine (few_n HFA.out (H.out.f.2)).mono ?_); rintro en wf ⟨rfl, hb_⟩; have n0_ := Aside0.mk (H.out.on hb_); clear H; have H := n0_; clear n0_; clear hb_))
  go_upto_region 4 with (first | ((with_reducible refine gate_dst (N := 23) rfl ?_); (try (refine gate_guard (by rfl) ?_; dsimp only)); refine ev_build (zeroC.setIfInBounds 15 (.slice B b.length cb)) rfl (by first | (go_simp; done) | (go_simp; rfl)) ?_; intro cz hcx_; have mx_ := (show IsMsg _ (zeroC.setIfInBounds 15 (.slice B b.length cb)) ({ zeroM with recs := b }) from (set_recs (zero_is _) (n := cb) Hcb.out (fun o ho => Gb.out o ho) (H.out.f.1.2))); rw [← hcx_] at mx_; have n0_ := Aside0.mk ((H.out).add (sta_msg _ _) (mx_)); clear H; have H := n0_; clear n0_; clear hcx_ mx_) | (go_at_call 15; (with_reducible refine (few_n HFB.out (H.out.f.2)).mono ?_); rintro en wg ⟨rfl, hb_⟩; have n0_ := Aside0.mk (H.out.on hb_); clear H; have H := n0_; clear n0_; clear hb_))
  go_wp2
  go_ret
  exact ⟨rfl, H.out.b⟩
theorem Joins_nb {response : Bool} {A B : Option Addr} {ca cb : Nat} {a b : List S43} {w : World} (hra : Kd.C k43 w A a.length a) (hca : a.length ≤ ca) (hrb : Kd.C k43 w B b.length b) (hcb : b.length ≤ cb) (ha : ∀ x ∈ a, goodRec x) (hb : ∀ x ∈ b, goodRec x) (hfa : fewB (mkF 21 a) = true) (hfb : fewB (mkF 21 b) = false) :
    Calls Try.prog 9 #[.bool response, .slice A a.length ca, .slice B b.length cb] w fun en w' => en = .returned (.bool true) ∧ Below w.heap.size w w' := by
  have Hca := Aside0.mk hca
  have Hcb := Aside0.mk hcb
  have Ga := Aside0.mk ha
  have Gb := Aside0.mk hb
  have HRA := Aside0.mk hra
  have HRB := Aside0.mk hrb
  have H := Aside0.mk (Hd.start w)
  have n0_ := Aside0.mk (((H.out).add (sta_R _ _ _) (hra)).add (sta_R _ _ _) (hrb))
  clear H
  have H := n0_
  clear n0_
  clear hra hca hrb hcb ha hb
  have HFA := Aside0.mk hfa
  have HFB := Aside0.mk hfb
  clear hfa hfb
  go_enter Try.func9, Try.ntmps9
  go_upto_region 2 with (first | (go_at_call 11; (with_reducible refine (AwakeC.c awake_c _).mono ?_); rintro en wa ⟨rfl, hb_⟩; have n0_ := Aside0.mk (H.out.on hb_); clear H; have H := n0_; clear n0_; clear hb_))
  go_upto_region 3 with (first | ((with_reducible refine gate_dst (N := 20) rfl ?_); (try (refine gate_guard (by rfl) ?_; dsimp only)); refine ev_build (zeroC.setIfInBounds 15 (.slice A a.length ca)) rfl (by first | (go_simp; done) | (go_simp; rfl)) ?_; intro cy hcx_; have mx_ := (show IsMsg _ (zeroC.setIfInBounds 15 (.slice A a.length ca)) ({ zeroM with recs := a }) from (set_recs (zero_is _) (n := ca) Hca.out (fun o ho => Ga.out o ho) (H.out.f.1.2))); rw [← hcx_] at mx_; have n0_ := Aside0.mk ((H.out).add (sta_msg _ _) (mx_)); clear H; have H := n0_; clear n0_; clear hcx_ mx_) | (go_at_call 15; (with_reducible refine (few_n HFA.out (H.out.f.2)).mono ?_); rintro en wf ⟨rfl, hb_⟩; have n0_ := Aside0.mk (H.out.on hb_); clear H; have H := n0_; clear n0_; clear hb_))
  go_upto_region 4 with (first | ((with_reducible refine gate_dst (N := 23) rfl ?_); (try (refine gate_guard (by rfl) ?_; dsimp only)); refine ev_build (zeroC.setIfInBounds 15 (.slice B b.length cb)) rfl (by first | (go_simp; done) | (go_simp; rfl)) ?_; intro cz hcx_; have mx_ := (show IsMsg _ (zeroC.setIfInBounds 15 (.slice B b.length cb)) ({ zeroM with recs := b }) from (set_recs (zero_is _) (n := cb) Hcb.out (fun o ho => Gb.out o ho) (H.out.f.1.2))); rw [← hcx_] at mx_; have n0_ := Aside0.mk ((H.out).add (sta_msg _ _) (mx_)); clear H; have H := n0_; clear n0_; clear hcx_ mx_) | (go_at_call 15; (with_reducible refine (few_n HFB.out (H.out.f.2)).mono ?_); rintro en wg ⟨rfl, hb_⟩; have n0_ := Aside0.mk (H.out.on hb_); clear H; have H := n0_; clear n0_; clear hb_))
  go_wp2
  go_ret
  exact ⟨rfl, H.out.b⟩
theorem Joins_ea0 {A B : Option Addr} {ca cb : Nat} {a b : List S43} {w : World} (hra : Kd.C k43 w A a.length a) (hca : a.length ≤ ca) (hrb : Kd.C k43 w B b.length b) (hcb : b.length ≤ cb) (ha : ∀ x ∈ a, goodRec x) (hb : ∀ x ∈ b, goodRec x) (hfa : fewB (mkF 21 a) = true) (hfb : fewB (mkF 21 b) = true) (hwa : write 0 (mkF 21 a) = ([], 1)) :
    Calls Try.prog 9 #[.bool false, .slice A a.length ca, .slice B b.length cb] w fun en w' => en = .returned (.bool true) ∧ Below w.heap.size w w' := by
  have Hca := Aside0.mk hca
  have Hcb := Aside0.mk hcb
  have Ga := Aside0.mk ha
  have Gb := Aside0.mk hb
  have HRA := Aside0.mk hra
  have HRB := Aside0.mk hrb
  have H := Aside0.mk (Hd.start w)
  have n0_ := Aside0.mk (((H.out).add (sta_R _ _ _) (hra)).add (sta_R _ _ _) (hrb))
  clear H
  have H := n0_
  clear n0_
  clear hra hca hrb hcb ha hb
  have HFA := Aside0.mk hfa
  have HFB := Aside0.mk hfb
  clear hfa hfb
  have hs1_ := few_small HFA.out 0
  have hs2_ := few_small HFB.out 0
  have ha_ := hwa
  have HWA := Aside0.mk (show WriteC 16 0 (mkF 21 a) ([], 1) from mk_c hs1_.1 hs1_.2.1 ha_)
  obtain ⟨R, hb_⟩ : ∃ z, write 0 (mkF 21 b) = z := ⟨_, rfl⟩
  have HWB := Aside0.mk (show WriteC 16 0 (mkF 21 b) R from mk_c hs2_.1 hs2_.2.1 hb_)
  clear hwa ha_ hb_ hs1_ hs2_
  go_enter Try.func9, Try.ntmps9
  go_upto_region 2 with (first | (go_at_call 11; (with_reducible refine (AwakeC.c awake_c _).mono ?_); rintro en wa ⟨rfl, hb_⟩; have n0_ := Aside0.mk (H.out.on hb_); clear H; have H := n0_; clear n0_; clear hb_))
  go_upto_region 3 with (first | ((with_reducible refine gate_dst (N := 20) rfl ?_); (try (refine gate_guard (by rfl) ?_; dsimp only)); refine ev_build (zeroC.setIfInBounds 15 (.slice A a.length ca)) rfl (by first | (go_simp; done) | (go_simp; rfl)) ?_; intro cy hcx_; have mx_ := (show IsMsg _ (zeroC.setIfInBounds 15 (.slice A a.length ca)) ({ zeroM with recs := a }) from (set_recs (zero_is _) (n := ca) Hca.out (fun o ho => Ga.out o ho) (H.out.f.1.2))); rw [← hcx_] at mx_; have n0_ := Aside0.mk ((H.out).add (sta_msg _ _) (mx_)); clear H; have H := n0_; clear n0_; clear hcx_ mx_) | (go_at_call 15; (with_reducible refine (few_n HFA.out (H.out.f.2)).mono ?_); rintro en wf ⟨rfl, hb_⟩; have n0_ := Aside0.mk (H.out.on hb_); clear H; have H := n0_; clear n0_; clear hb_))
  go_upto_region 4 with (first | ((with_reducible refine gate_dst (N := 23) rfl ?_); (try (refine gate_guard (by rfl) ?_; dsimp only)); refine ev_build (zeroC.setIfInBounds 15 (.slice B b.length cb)) rfl (by first | (go_simp; done) | (go_simp; rfl)) ?_; intro cz hcx_; have mx_ := (show IsMsg _ (zeroC.setIfInBounds 15 (.slice B b.length cb)) ({ zeroM with recs := b }) from (set_recs (zero_is _) (n := cb) Hcb.out (fun o ho => Gb.out o ho) (H.out.f.1.2))); rw [← hcx_] at mx_; have n0_ := Aside0.mk ((H.out).add (sta_msg _ _) (mx_)); clear H; have H := n0_; clear n0_; clear hcx_ mx_) | (go_at_call 15; (with_reducible refine (few_n HFB.out (H.out.f.2)).mono ?_); rintro en wg ⟨rfl, hb_⟩; have n0_ := Aside0.mk (H.out.on hb_); clear H; have H := n0_; clear n0_; clear hb_))
  go_upto_region 10 with (first | ((with_reducible refine gate_dst (N := 36) rfl ?_); (try (refine gate_guard (by rfl) ?_; dsimp only)); refine ev_build ((codeC 21).setIfInBounds 15 (.slice A a.length ca)) rfl (by first | (go_simp; done) | (go_simp; rfl)) ?_; intro cm hcx_; have mx_ := (show IsMsg _ ((codeC 21).setIfInBounds 15 (.slice A a.length ca)) (mkF 21 a) from (mkF_is (code := 21) (l := a) (by decide) (n := ca) Hca.out (fun o ho => Ga.out o ho) (H.out.f.1.1.1.2))); rw [← hcx_] at mx_; have n0_ := Aside0.mk ((H.out).add (sta_msg _ _) (mx_)); clear H; have H := n0_; clear n0_; clear hcx_ mx_) | (go_at_call 16; (with_reducible refine (WriteC.n HWA.out (n := 0) rfl H.out.f.2).mono ?_); rintro en wx ⟨Ax, cx, rfl, hz_, hr_, hb_⟩; have n0_ := Aside0.mk ((H.out.on hb_).add (sta_C _ _ _ _) (hr_)); clear H; have H := n0_; clear n0_; have Zx := Aside0.mk hz_; clear hb_ hr_ hz_))
  go_upto_region 11 with (first | ((with_reducible refine gate_dst (N := 43) rfl ?_); (try (refine gate_guard (by rfl) ?_; dsimp only)); refine ev_build ((codeC 21).setIfInBounds 15 (.slice B b.length cb)) rfl (by first | (go_simp; done) | (go_simp; rfl)) ?_; intro cn hcx_; have mx_ := (show IsMsg _ ((codeC 21).setIfInBounds 15 (.slice B b.length cb)) (mkF 21 b) from (mkF_is (code := 21) (l := b) (by decide) (n := cb) Hcb.out (fun o ho => Gb.out o ho) (H.out.f.1.1.1.1.2))); rw [← hcx_] at mx_; have n0_ := Aside0.mk ((H.out).add (sta_msg _ _) (mx_)); clear H; have H := n0_; clear n0_; clear hcx_ mx_) | (go_at_call 16; (with_reducible refine (WriteC.c HWB.out H.out.f.2).mono ?_); rintro en wu ⟨Au, cu_, rfl, hz_, hr_, hb_⟩; have n0_ := Aside0.mk ((H.out.on hb_).add (sta_C _ _ _ _) (hr_)); clear H; have H := n0_; clear n0_; have Zu := Aside0.mk hz_; clear hb_ hr_ hz_))
  go_wp2
  go_ret
  exact ⟨by first | rfl | (simp; done), H.out.b⟩
theorem Joins_eb0 {A B : Option Addr} {ca cb : Nat} {a b : List S43} {w : World} (hra : Kd.C k43 w A a.length a) (hca : a.length ≤ ca) (hrb : Kd.C k43 w B b.length b) (hcb : b.length ≤ cb) (ha : ∀ x ∈ a, goodRec x) (hb : ∀ x ∈ b, goodRec x) (hfa : fewB (mkF 21 a) = true) (hfb : fewB (mkF 21 b) = true) {X : List Int} (hwa : write 0 (mkF 21 a) = (X, 0)) (hwb : write 0 (mkF 21 b) = ([], 1)) :
    Calls Try.prog 9 #[.bool false, .slice A a.length ca, .slice B b.length cb] w fun en w' => en = .returned (.bool true) ∧ Below w.heap.size w w' := by
  have Hca := Aside0.mk hca
  have Hcb := Aside0.mk hcb
  have Ga := Aside0.mk ha
  have Gb := Aside0.mk hb
  have HRA := Aside0.mk hra
  have HRB := Aside0.mk hrb
  have H := Aside0.mk (Hd.start w)
  have n0_ := Aside0.mk (((H.out).add (sta_R _ _ _) (hra)).add (sta_R _ _ _) (hrb))
  clear H
  have H := n0_
  clear n0_
  clear hra hca hrb hcb ha hb
  have HFA := Aside0.mk hfa
  have HFB := Aside0.mk hfb
  clear hfa hfb
  have hs1_ := few_small HFA.out 0
  have hs2_ := few_small HFB.out 0
  have ha_ := hwa
  have hb_ := hwb
  have HWA := Aside0.mk (show WriteC 16 0 (mkF 21 a) (X, 0) from mk_c hs1_.1 hs1_.2.1 ha_)
  have HWB := Aside0.mk (show WriteC 16 0 (mkF 21 b) ([], 1) from mk_c hs2_.1 hs2_.2.1 hb_)
  obtain ⟨nx, enx_⟩ : ∃ z, z = X.length := ⟨_, rfl⟩
  have ENX := Aside0.mk enx_
  clear hwa ha_ hwb hb_ hs1_ hs2_ enx_
  go_enter Try.func9, Try.ntmps9
  go_upto_region 2 with (first | (go_at_call 11; (with_reducible refine (AwakeC.c awake_c _).mono ?_); rintro en wa ⟨rfl, hb_⟩; have n0_ := Aside0.mk (H.out.on hb_); clear H; have H := n0_; clear n0_; clear hb_))
  go_upto_region 3 with (first | ((with_reducible refine gate_dst (N := 20) rfl ?_); (try (refine gate_guard (by rfl) ?_; dsimp only)); refine ev_build (zeroC.setIfInBounds 15 (.slice A a.length ca)) rfl (by first | (go_simp; done) | (go_simp; rfl)) ?_; intro cy hcx_; have mx_ := (show IsMsg _ (zeroC.setIfInBounds 15 (.slice A a.length ca)) ({ zeroM with recs := a }) from (set_recs (zero_is _) (n := ca) Hca.out (fun o ho => Ga.out o ho) (H.out.f.1.2))); rw [← hcx_] at mx_; have n0_ := Aside0.mk ((H.out).add (sta_msg _ _) (mx_)); clear H; have H := n0_; clear n0_; clear hcx_ mx_) | (go_at_call 15; (with_reducible refine (few_n HFA.out (H.out.f.2)).mono ?_); rintro en wf ⟨rfl, hb_⟩; have n0_ := Aside0.mk (H.out.on hb_); clear H; have H := n0_; clear n0_; clear hb_))
  go_upto_region 4 with (first | ((with_reducible refine gate_dst (N := 23) rfl ?_); (try (refine gate_guard (by rfl) ?_; dsimp only)); refine ev_build (zeroC.setIfInBounds 15 (.slice B b.length cb)) rfl (by first | (go_simp; done) | (go_simp; rfl)) ?_; intro cz hcx_; have mx_ := (show IsMsg _ (zeroC.setIfInBounds 15 (.slice B b.length cb)) ({ zeroM with recs := b }) from (set_recs (zero_is _) (n := cb) Hcb.out (fun o ho => Gb.out o ho) (H.out.f.1.2))); rw [← hcx_] at mx_; have n0_ := Aside0.mk ((H.out).add (sta_msg _ _) (mx_)); clear H; have H := n0_; clear n0_; clear hcx_ mx_) | (go_at_call 15; (with_reducible refine (few_n HFB.out (H.out.f.2)).mono ?_); rintro en wg ⟨rfl, hb_⟩; have n0_ := Aside0.mk (H.out.on hb_); clear H; have H := n0_; clear n0_; clear hb_))
  go_upto_region 10 with (first | ((with_reducible refine gate_dst (N := 36) rfl ?_); (try (refine gate_guard (by rfl) ?_; dsimp only)); refine ev_build ((codeC 21).setIfInBounds 15 (.slice A a.length ca)) rfl (by first | (go_simp; done) | (go_simp; rfl)) ?_; intro cm hcx_; have mx_ := (show IsMsg _ ((codeC 21).setIfInBounds 15 (.slice A a.length ca)) (mkF 21 a) from (mkF_is (code := 21) (l := a) (by decide) (n := ca) Hca.out (fun o ho => Ga.out o ho) (H.out.f.1.1.1.2))); rw [← hcx_] at mx_; have n0_ := Aside0.mk ((H.out).add (sta_msg _ _) (mx_)); clear H; have H := n0_; clear n0_; clear hcx_ mx_) | (go_at_call 16; (with_reducible refine (WriteC.n HWA.out (n := nx) ENX.out.symm H.out.f.2).mono ?_); rintro en wx ⟨Ax, cx, rfl, hz_, hr_, hb_⟩; have n0_ := Aside0.mk ((H.out.on hb_).add (sta_C _ _ _ _) (hr_)); clear H; have H := n0_; clear n0_; have Zx := Aside0.mk hz_; clear hb_ hr_ hz_))
  go_upto_region 11 with (first | ((with_reducible refine gate_dst (N := 43) rfl ?_); (try (refine gate_guard (by rfl) ?_; dsimp only)); refine ev_build ((codeC 21).setIfInBounds 15 (.slice B b.length cb)) rfl (by first | (go_simp; done) | (go_simp; rfl)) ?_; intro cn hcx_; have mx_ := (show IsMsg _ ((codeC 21).setIfInBounds 15 (.slice B b.length cb)) (mkF 21 b) from (mkF_is (code := 21) (l := b) (by decide) (n := cb) Hcb.out (fun o ho => Gb.out o ho) (H.out.f.1.1.1.1.2))); rw [← hcx_] at mx_; have n0_ := Aside0.mk ((H.out).add (sta_msg _ _) (mx_)); clear H; have H := n0_; clear n0_; clear hcx_ mx_) | (go_at_call 16; (with_reducible refine (WriteC.n HWB.out (n := 0) rfl H.out.f.2).mono ?_); rintro en wu ⟨Au, cu_, rfl, hz_, hr_, hb_⟩; have n0_ := Aside0.mk ((H.out.on hb_).add (sta_C _ _ _ _) (hr_)); clear H; have H := n0_; clear n0_; have Zu := Aside0.mk hz_; clear hb_ hr_ hz_))
  go_wp2
  go_ret
  exact ⟨by first | rfl | (simp; done), H.out.b⟩
theorem Joins_long0 {A B : Option Addr} {ca cb : Nat} {a b : List S43} {w : World} (hra : Kd.C k43 w A a.length a) (hca : a.length ≤ ca) (hrb : Kd.C k43 w B b.length b) (hcb : b.length ≤ cb) (ha : ∀ x ∈ a, goodRec x) (hb : ∀ x ∈ b, goodRec x) (hfa : fewB (mkF 21 a) = true) (hfb : fewB (mkF 21 b) = true) {fa fb : List Int} (hwa : write 0 (mkF 21 a) = ((fa.length : Int) :: fa, 0)) (hwb : write 0 (mkF 21 b) = ((fb.length : Int) :: fb, 0)) (hba : isBytes fa) (hbb : isBytes fb) (hla : fa.length ≤ 251) (hlb : fb.length ≤ 251) {nn : Nat} (hnn : nn = fa.length + fb.length) (hn : ¬ fa.length + fb.length ≤ 251) (hp : 1 ≤ fa.length) (hq : 1 ≤ fb.length) (hwc : WriteC 16 0 (mkF 21 (a ++ b)) ([], 1)) :
    Calls Try.prog 9 #[.bool false, .slice A a.length ca, .slice B b.length cb] w fun en w' => en = .returned (.bool true) ∧ Below w.heap.size w w' := by
  have Hca := Aside0.mk hca
  have Hcb := Aside0.mk hcb
  have Ga := Aside0.mk ha
  have Gb := Aside0.mk hb
  have HRA := Aside0.mk hra
  have HRB := Aside0.mk hrb
  have H := Aside0.mk (Hd.start w)
  have n0_ := Aside0.mk (((H.out).add (sta_R _ _ _) (hra)).add (sta_R _ _ _) (hrb))
  clear H
  have H := n0_
  clear n0_
  clear hra hca hrb hcb ha hb
  have HFA := Aside0.mk hfa
  have HFB := Aside0.mk hfb
  clear hfa hfb
  have hs1_ := few_small HFA.out 0
  have hs2_ := few_small HFB.out 0
  have ha_ := hwa
  have hb_ := hwb
  have HWA := Aside0.mk (show WriteC 16 0 (mkF 21 a) ((fa.length : Int) :: fa, 0) from mk_c hs1_.1 hs1_.2.1 ha_)
  have HWB := Aside0.mk (show WriteC 16 0 (mkF 21 b) ((fb.length : Int) :: fb, 0) from mk_c hs2_.1 hs2_.2.1 hb_)
  have HWC := Aside0.mk hwc
  have HBA := Aside0.mk hba
  have HBB := Aside0.mk hbb
  have EL1 := Aside0.mk (few_len HFA.out)
  have EL2 := Aside0.mk (few_len HFB.out)
  obtain ⟨nx, enx_⟩ : ∃ z, z = fa.length + 1 := ⟨_, rfl⟩
  obtain ⟨ny, eny_⟩ : ∃ z, z = fb.length + 1 := ⟨_, rfl⟩
  have gx : ((nx : Int) == 0) = false := beq_eq_false_iff_ne.2 (by omega)
  have gy : ((ny : Int) == 0) = false := beq_eq_false_iff_ne.2 (by omega)
  have wxy : wrap64 ((nx : Int) + (ny : Int)) = (nx : Int) + (ny : Int) := wrap64_id (by omega) (by omega)
  have wx2 : wrap64 ((nx : Int) + (ny : Int) - 2) = (nx : Int) + (ny : Int) - 2 := wrap64_id (by omega) (by omega)
  have dn : decide ((nx : Int) + (ny : Int) - 2 > 251) = true := decide_eq_true (by omega)
  have ENX := Aside0.mk enx_
  have ENY := Aside0.mk eny_
  have HN := Aside0.mk hn
  have ENN := Aside0.mk hnn
  clear hp hq hnn hwa ha_ hwb hb_ hs1_ hs2_ enx_ eny_ hwc hba hbb hn hla hlb
  go_enter Try.func9, Try.ntmps9
  go_upto_region 2 with (first | (go_at_call 11; (with_reducible refine (AwakeC.c awake_c _).mono ?_); rintro en wa ⟨rfl, hb_⟩; have n0_ := Aside0.mk (H.out.on hb_); clear H; have H := n0_; clear n0_; clear hb_))
  go_upto_region 3 with (first | ((with_reducible refine gate_dst (N := 20) rfl ?_); (try (refine gate_guard (by rfl) ?_; dsimp only)); refine ev_build (zeroC.setIfInBounds 15 (.slice A a.length ca)) rfl (by first | (go_simp; done) | (go_simp; rfl)) ?_; intro cy hcx_; have mx_ := (show IsMsg _ (zeroC.setIfInBounds 15 (.slice A a.length ca)) ({ zeroM with recs := a }) from (set_recs (zero_is _) (n := ca) Hca.out (fun o ho => Ga.out o ho) (H.out.f.1.2))); rw [← hcx_] at mx_; have n0_ := Aside0.mk ((H.out).add (sta_msg _ _) (mx_)); clear H; have H := n0_; clear n0_; clear hcx_ mx_) | (go_at_call 15; (with_reducible refine (few_n HFA.out (H.out.f.2)).mono ?_); rintro en wf ⟨rfl, hb_⟩; have n0_ := Aside0.mk (H.out.on hb_); clear H; have H := n0_; clear n0_; clear hb_))
  go_upto_region 4 with (first | ((with_reducible refine gate_dst (N := 23) rfl ?_); (try (refine gate_guard (by rfl) ?_; dsimp only)); refine ev_build (zeroC.setIfInBounds 15 (.slice B b.length cb)) rfl (by first | (go_simp; done) | (go_simp; rfl)) ?_; intro cz hcx_; have mx_ := (show IsMsg _ (zeroC.setIfInBounds 15 (.slice B b.length cb)) ({ zeroM with recs := b }) from (set_recs (zero_is _) (n := cb) Hcb.out (fun o ho => Gb.out o ho) (H.out.f.1.2))); rw [← hcx_] at mx_; have n0_ := Aside0.mk ((H.out).add (sta_msg _ _) (mx_)); clear H; have H := n0_; clear n0_; clear hcx_ mx_) | (go_at_call 15; (with_reducible refine (few_n HFB.out (H.out.f.2)).mono ?_); rintro en wg ⟨rfl, hb_⟩; have n0_ := Aside0.mk (H.out.on hb_); clear H; have H := n0_; clear n0_; clear hb_))
  go_upto_region 10 with (first | ((with_reducible refine gate_dst (N := 36) rfl ?_); (try (refine gate_guard (by rfl) ?_; dsimp only)); refine ev_build ((codeC 21).setIfInBounds 15 (.slice A a.length ca)) rfl (by first | (go_simp; done) | (go_simp; rfl)) ?_; intro cm hcx_; have mx_ := (show IsMsg _ ((codeC 21).setIfInBounds 15 (.slice A a.length ca)) (mkF 21 a) from (mkF_is (code := 21) (l := a) (by decide) (n := ca) Hca.out (fun o ho => Ga.out o ho) (H.out.f.1.1.1.2))); rw [← hcx_] at mx_; have n0_ := Aside0.mk ((H.out).add (sta_msg _ _) (mx_)); clear H; have H := n0_; clear n0_; clear hcx_ mx_) | (go_at_call 16; (with_reducible refine (WriteC.n HWA.out (n := nx) (by rw [List.length_cons, ENX.out]) H.out.f.2).mono ?_); rintro en wx ⟨Ax, cx, rfl, hz_, hr_, hb_⟩; have n0_ := Aside0.mk ((H.out.on hb_).add (sta_C _ _ _ _) (hr_)); clear H; have H := n0_; clear n0_; have Zx := Aside0.mk hz_; clear hb_ hr_ hz_))
  go_upto_region 11 with (first | ((with_reducible refine gate_dst (N := 43) rfl ?_); (try (refine gate_guard (by rfl) ?_; dsimp only)); refine ev_build ((codeC 21).setIfInBounds 15 (.slice B b.length cb)) rfl (by first | (go_simp; done) | (go_simp; rfl)) ?_; intro cn hcx_; have mx_ := (show IsMsg _ ((codeC 21).setIfInBounds 15 (.slice B b.length cb)) (mkF 21 b) from (mkF_is (code := 21) (l := b) (by decide) (n := cb) Hcb.out (fun o ho => Gb.out o ho) (H.out.f.1.1.1.1.2))); rw [← hcx_] at mx_; have n0_ := Aside0.mk ((H.out).add (sta_msg _ _) (mx_)); clear H; have H := n0_; clear n0_; clear hcx_ mx_) | (go_at_call 16; (with_reducible refine (WriteC.n HWB.out (n := ny) (by rw [List.length_cons, ENY.out]) H.out.f.2).mono ?_); rintro en wu ⟨Au, cu_, rfl, hz_, hr_, hb_⟩; have n0_ := Aside0.mk ((H.out.on hb_).add (sta_C _ _ _ _) (hr_)); clear H; have H := n0_; clear n0_; have Zu := Aside0.mk hz_; clear hb_ hr_ hz_))
  obtain ⟨ra, ka_, za_⟩ := raws_of (H.out.f.1.1.1.1.1.1.1.2)
  obtain ⟨rb, kb_, zb_⟩ := raws_of (H.out.f.1.1.1.1.1.1.2)
  have KA := Aside0.mk ka_
  have KB := Aside0.mk kb_
  have ZA := Aside0.mk za_
  have ZB := Aside0.mk zb_
  clear ka_ kb_ za_ zb_
  obtain ⟨nl, enl_⟩ : ∃ z, z = a.length + b.length := ⟨_, rfl⟩
  have ENL := Aside0.mk enl_
  clear enl_
  go_upto_region 14 with (first | ((with_reducible refine gate_dst (N := 74) rfl ?_); refine ev_none rfl rfl (by first | (go_simp; done) | (go_simp; rfl)) ?_; intro v1 w31 r_ b_; have R1 := Aside0.mk r_; have B1 := Aside0.mk b_; clear r_ b_) | ((with_reducible refine gate_dst (N := 76) rfl ?_); refine ev_rapp (.tmp 74) (.tmp 75) rfl rfl rfl rfl R1.out B1.out.size (Kd.C_below KA.out B1.out) (by have := EL1.out; simp; omega) ?_; intro v2 w32 r_ b_; have R2 := Aside0.mk r_; have B2 := Aside0.mk (B1.out.trans b_); clear r_ b_ R1 B1) | ((with_reducible refine gate_dst (N := 78) rfl ?_); refine ev_rapp2 (.tmp 76) (.tmp 77) rfl rfl rfl rfl R2.out B2.out.size (Kd.C_below KB.out B2.out) (by have := EL1.out; have := EL2.out; have := ZA.out.1; simp; omega) (m := nl) (by have := ZA.out.1; have := ZB.out.1; have := ENL.out; simp; omega) ?_; intro A3 n3 w33 r_ b_; have R3 := Aside0.mk r_; have B3 := Aside0.mk (B2.out.trans b_); clear r_ b_ R2 B2; have n0_ := Aside0.mk (H.out.on B3.out); clear H; have H := n0_; clear n0_) | ((with_reducible refine gate_dst (N := 79) rfl ?_); refine ev_build ((codeC 21).setIfInBounds 15 (.slice A3 nl n3)) rfl (by first | (go_simp; done) | (go_simp; rfl)) ?_; intro cq hcx_; have mx_ := join_is (by simpa using R3.out) (fits_below ZA.out B3.out) (fits_below ZB.out B3.out) Ga.out Gb.out; rw [← hcx_] at mx_; have n0_ := Aside0.mk ((H.out).add (sta_msg _ _) (mx_)); clear H; have H := n0_; clear n0_; clear hcx_ mx_) | (go_at_call 16; (with_reducible refine (WriteC.n HWC.out (n := 0) rfl H.out.f.2).mono ?_); rintro en wq ⟨Aq, cq_, rfl, hz_, hr_, hb_⟩; have n0_ := Aside0.mk ((H.out.on hb_).add (sta_C _ _ _ _) (hr_)); clear H; have H := n0_; clear n0_; have Zq := Aside0.mk hz_; clear hb_ hr_ hz_))
  go_wp2
  go_ret
  exact ⟨by first | rfl | (simp; done), H.out.b⟩
theorem Joins_ok0 {A B : Option Addr} {ca cb : Nat} {a b : List S43} {w : World} (hra : Kd.C k43 w A a.length a) (hca : a.length ≤ ca) (hrb : Kd.C k43 w B b.length b) (hcb : b.length ≤ cb) (ha : ∀ x ∈ a, goodRec x) (hb : ∀ x ∈ b, goodRec x) (hfa : fewB (mkF 21 a) = true) (hfb : fewB (mkF 21 b) = true) {fa fb : List Int} (hwa : write 0 (mkF 21 a) = ((fa.length : Int) :: fa, 0)) (hwb : write 0 (mkF 21 b) = ((fb.length : Int) :: fb, 0)) (hba : isBytes fa) (hbb : isBytes fb) (hla : fa.length ≤ 251) (hlb : fb.length ≤ 251) {nn : Nat} (hnn : nn = fa.length + fb.length) (hn : fa.length + fb.length ≤ 251) (hp : 1 ≤ fa.length) (hq : 1 ≤ fb.length) (hwc : WriteC 16 0 (mkF 21 (a ++ b)) ((nn : Int) :: (fa ++ fb), 0)) :
    Calls Try.prog 9 #[.bool false, .slice A a.length ca, .slice B b.length cb] w fun en w' => en = .returned (.bool true) ∧ Below w.heap.size w w' := by
  have Hca := Aside0.mk hca
  have Hcb := Aside0.mk hcb
  have Ga := Aside0.mk ha
  have Gb := Aside0.mk hb
  have HRA := Aside0.mk hra
  have HRB := Aside0.mk hrb
  have H := Aside0.mk (Hd.start w)
  have n0_ := Aside0.mk (((H.out).add (sta_R _ _ _) (hra)).add (sta_R _ _ _) (hrb))
  clear H
  have H := n0_
  clear n0_
  clear hra hca hrb hcb ha hb
  have HFA := Aside0.mk hfa
  have HFB := Aside0.mk hfb
  clear hfa hfb
  have hs1_ := few_small HFA.out 0
  have hs2_ := few_small HFB.out 0
  have ha_ := hwa
  have hb_ := hwb
  have HWA := Aside0.mk (show WriteC 16 0 (mkF 21 a) ((fa.length : Int) :: fa, 0) from mk_c hs1_.1 hs1_.2.1 ha_)
  have HWB := Aside0.mk (show WriteC 16 0 (mkF 21 b) ((fb.length : Int) :: fb, 0) from mk_c hs2_.1 hs2_.2.1 hb_)
  have HWC := Aside0.mk hwc
  have HBA := Aside0.mk hba
  have HBB := Aside0.mk hbb
  have EL1 := Aside0.mk (few_len HFA.out)
  have EL2 := Aside0.mk (few_len HFB.out)
  obtain ⟨nx, enx_⟩ : ∃ z, z = fa.length + 1 := ⟨_, rfl⟩
  obtain ⟨ny, eny_⟩ : ∃ z, z = fb.length + 1 := ⟨_, rfl⟩
  have gx : ((nx : Int) == 0) = false := beq_eq_false_iff_ne.2 (by omega)
  have gy : ((ny : Int) == 0) = false := beq_eq_false_iff_ne.2 (by omega)
  have wxy : wrap64 ((nx : Int) + (ny : Int)) = (nx : Int) + (ny : Int) := wrap64_id (by omega) (by omega)
  have wx2 : wrap64 ((nx : Int) + (ny : Int) - 2) = (nx : Int) + (ny : Int) - 2 := wrap64_id (by omega) (by omega)
  have dn : decide ((nx : Int) + (ny : Int) - 2 > 251) = false := decide_eq_false (by omega)
  have ENX := Aside0.mk enx_
  have ENY := Aside0.mk eny_
  have HN := Aside0.mk hn
  have ENN := Aside0.mk hnn
  clear hp hq hnn hwa ha_ hwb hb_ hs1_ hs2_ enx_ eny_ hwc hba hbb hn hla hlb
  go_enter Try.func9, Try.ntmps9
  go_upto_region 2 with (first | (go_at_call 11; (with_reducible refine (AwakeC.c awake_c _).mono ?_); rintro en wa ⟨rfl, hb_⟩; have n0_ := Aside0.mk (H.out.on hb_); clear H; have H := n0_; clear n0_; clear hb_))
  go_upto_region 3 with (first | ((with_reducible refine gate_dst (N := 20) rfl ?_); (try (refine gate_guard (by rfl) ?_; dsimp only)); refine ev_build (zeroC.setIfInBounds 15 (.slice A a.length ca)) rfl (by first | (go_simp; done) | (go_simp; rfl)) ?_; intro cy hcx_; have mx_ := (show IsMsg _ (zeroC.setIfInBounds 15 (.slice A a.length ca)) ({ zeroM with recs := a }) from (set_recs (zero_is _) (n := ca) Hca.out (fun o ho => Ga.out o ho) (H.out.f.1.2))); rw [← hcx_] at mx_; have n0_ := Aside0.mk ((H.out).add (sta_msg _ _) (mx_)); clear H; have H := n0_; clear n0_; clear hcx_ mx_) | (go_at_call 15; (with_reducible refine (few_n HFA.out (H.out.f.2)).mono ?_); rintro en wf ⟨rfl, hb_⟩; have n0_ := Aside0.mk (H.out.on hb_); clear H; have H := n0_; clear n0_; clear hb_))
  go_upto_region 4 with (first | ((with_reducible refine gate_dst (N := 23) rfl ?_); (try (refine gate_guard (by rfl) ?_; dsimp only)); refine ev_build (zeroC.setIfInBounds 15 (.slice B b.length cb)) rfl (by first | (go_simp; done) | (go_simp; rfl)) ?_; intro cz hcx_; have mx_ := (show IsMsg _ (zeroC.setIfInBounds 15 (.slice B b.length cb)) ({ zeroM with recs := b }) from (set_recs (zero_is _) (n := cb) Hcb.out (fun o ho => Gb.out o ho) (H.out.f.1.2))); rw [← hcx_] at mx_; have n0_ := Aside0.mk ((H.out).add (sta_msg _ _) (mx_)); clear H; have H := n0_; clear n0_; clear hcx_ mx_) | (go_at_call 15; (with_reducible refine (few_n HFB.out (H.out.f.2)).mono ?_); rintro en wg ⟨rfl, hb_⟩; have n0_ := Aside0.mk (H.out.on hb_); clear H; have H := n0_; clear n0_; clear hb_))
  go_upto_region 10 with (first | ((with_reducible refine gate_dst (N := 36) rfl ?_); (try (refine gate_guard (by rfl) ?_; dsimp only)); refine ev_build ((codeC 21).setIfInBounds 15 (.slice A a.length ca)) rfl (by first | (go_simp; done) | (go_simp; rfl)) ?_; intro cm hcx_; have mx_ := (show IsMsg _ ((codeC 21).setIfInBounds 15 (.slice A a.length ca)) (mkF 21 a) from (mkF_is (code := 21) (l := a) (by decide) (n := ca) Hca.out (fun o ho => Ga.out o ho) (H.out.f.1.1.1.2))); rw [← hcx_] at mx_; have n0_ := Aside0.mk ((H.out).add (sta_msg _ _) (mx_)); clear H; have H := n0_; clear n0_; clear hcx_ mx_) | (go_at_call 16; (with_reducible refine (WriteC.n HWA.out (n := nx) (by rw [List.length_cons, ENX.out]) H.out.f.2).mono ?_); rintro en wx ⟨Ax, cx, rfl, hz_, hr_, hb_⟩; have n0_ := Aside0.mk ((H.out.on hb_).add (sta_C _ _ _ _) (hr_)); clear H; have H := n0_; clear n0_; have Zx := Aside0.mk hz_; clear hb_ hr_ hz_))
  go_upto_region 11 with (first | ((with_reducible refine gate_dst (N := 43) rfl ?_); (try (refine gate_guard (by rfl) ?_; dsimp only)); refine ev_build ((codeC 21).setIfInBounds 15 (.slice B b.length cb)) rfl (by first | (go_simp; done) | (go_simp; rfl)) ?_; intro cn hcx_; have mx_ := (show IsMsg _ ((codeC 21).setIfInBounds 15 (.slice B b.length cb)) (mkF 21 b) from (mkF_is (code := 21) (l := b) (by decide) (n := cb) Hcb.out (fun o ho => Gb.out o ho) (H.out.f.1.1.1.1.2))); rw [← hcx_] at mx_; have n0_ := Aside0.mk ((H.out).add (sta_msg _ _) (mx_)); clear H; have H := n0_; clear n0_; clear hcx_ mx_) | (go_at_call 16; (with_reducible refine (WriteC.n HWB.out (n := ny) (by rw [List.length_cons, ENY.out]) H.out.f.2).mono ?_); rintro en wu ⟨Au, cu_, rfl, hz_, hr_, hb_⟩; have n0_ := Aside0.mk ((H.out.on hb_).add (sta_C _ _ _ _) (hr_)); clear H; have H := n0_; clear n0_; have Zu := Aside0.mk hz_; clear hb_ hr_ hz_))
  obtain ⟨ra, ka_, za_⟩ := raws_of (H.out.f.1.1.1.1.1.1.1.2)
  obtain ⟨rb, kb_, zb_⟩ := raws_of (H.out.f.1.1.1.1.1.1.2)
  have KA := Aside0.mk ka_
  have KB := Aside0.mk kb_
  have ZA := Aside0.mk za_
  have ZB := Aside0.mk zb_
  clear ka_ kb_ za_ zb_
  obtain ⟨nl, enl_⟩ : ∃ z, z = a.length + b.length := ⟨_, rfl⟩
  have ENL := Aside0.mk enl_
  clear enl_
  go_upto_region 14 with (first | ((with_reducible refine gate_dst (N := 74) rfl ?_); refine ev_none rfl rfl (by first | (go_simp; done) | (go_simp; rfl)) ?_; intro v1 w31 r_ b_; have R1 := Aside0.mk r_; have B1 := Aside0.mk b_; clear r_ b_) | ((with_reducible refine gate_dst (N := 76) rfl ?_); refine ev_rapp (.tmp 74) (.tmp 75) rfl rfl rfl rfl R1.out B1.out.size (Kd.C_below KA.out B1.out) (by have := EL1.out; simp; omega) ?_; intro v2 w32 r_ b_; have R2 := Aside0.mk r_; have B2 := Aside0.mk (B1.out.trans b_); clear r_ b_ R1 B1) | ((with_reducible refine gate_dst (N := 78) rfl ?_); refine ev_rapp2 (.tmp 76) (.tmp 77) rfl rfl rfl rfl R2.out B2.out.size (Kd.C_below KB.out B2.out) (by have := EL1.out; have := EL2.out; have := ZA.out.1; simp; omega) (m := nl) (by have := ZA.out.1; have := ZB.out.1; have := ENL.out; simp; omega) ?_; intro A3 n3 w33 r_ b_; have R3 := Aside0.mk r_; have B3 := Aside0.mk (B2.out.trans b_); clear r_ b_ R2 B2; have n0_ := Aside0.mk (H.out.on B3.out); clear H; have H := n0_; clear n0_) | ((with_reducible refine gate_dst (N := 79) rfl ?_); refine ev_build ((codeC 21).setIfInBounds 15 (.slice A3 nl n3)) rfl (by first | (go_simp; done) | (go_simp; rfl)) ?_; intro cq hcx_; have mx_ := join_is (by simpa using R3.out) (fits_below ZA.out B3.out) (fits_below ZB.out B3.out) Ga.out Gb.out; rw [← hcx_] at mx_; have n0_ := Aside0.mk ((H.out).add (sta_msg _ _) (mx_)); clear H; have H := n0_; clear n0_; clear hcx_ mx_) | (go_at_call 16; (with_reducible refine (WriteC.n HWC.out (n := nx + ny - 1) (by have := ENX.out; have := ENY.out; simp; omega) H.out.f.2).mono ?_); rintro en wq ⟨Aq, cq_, rfl, hz_, hr_, hb_⟩; have n0_ := Aside0.mk ((H.out.on hb_).add (sta_C _ _ _ _) (hr_)); clear H; have H := n0_; clear n0_; have Zq := Aside0.mk hz_; clear hb_ hr_ hz_))
  go_upto_region 17 with (fail)
  obtain ⟨i, hi1, hi2⟩ := u8_info
  have hnx_ := ENX.out
  have hny_ := ENY.out
  have cutAx := cut_from 22 5 .i64 Try.underlying22 hi1 1 hi2 Ax nx cx 1 (by decide) (by omega)
  obtain ⟨Ax1, hAx1⟩ : ∃ z, z = (if cx = (1 : Int).toNat then Ax else Ax.map (·.add ((1 : Int).toNat * 1))) := ⟨_, rfl⟩
  rw [← hAx1, show nx - (1 : Int).toNat = fa.length from by rw [show (1 : Int).toNat = 1 from rfl]; omega, show cx - (1 : Int).toNat = cx - 1 from rfl] at cutAx
  have RAx1 := Aside0.mk (show Kd.C (Kd.int .u8) wq.drew Ax1 fa.length fa from by have h_ := H.out.dr.f.1.1.1.1.2; have hz_ := Zx.out; rw [hnx_] at h_ hz_; rw [hAx1]; exact Kd.C_drop (xs := (fa.length : Int) :: fa) (m := 1) (c := cx) h_ (by simp) (by simpa using hz_))
  have nAx_1 : (1 : Int) ≤ (nx : Int) := by omega
  have zAx_1 : fa.length ≤ cx - 1 := by have := Zx.out; omega
  clear hAx1
  have cutAu := cut_from 22 5 .i64 Try.underlying22 hi1 1 hi2 Au ny cu_ 1 (by decide) (by omega)
  obtain ⟨Au1, hAu1⟩ : ∃ z, z = (if cu_ = (1 : Int).toNat then Au else Au.map (·.add ((1 : Int).toNat * 1))) := ⟨_, rfl⟩
  rw [← hAu1, show ny - (1 : Int).toNat = fb.length from by rw [show (1 : Int).toNat = 1 from rfl]; omega, show cu_ - (1 : Int).toNat = cu_ - 1 from rfl] at cutAu
  have RAu1 := Aside0.mk (show Kd.C (Kd.int .u8) wq.drew Au1 fb.length fb from by have h_ := H.out.dr.f.1.1.2; have hz_ := Zu.out; rw [hny_] at h_ hz_; rw [hAu1]; exact Kd.C_drop (xs := (fb.length : Int) :: fb) (m := 1) (c := cu_) h_ (by simp) (by simpa using hz_))
  have nAu_1 : (1 : Int) ≤ (ny : Int) := by omega
  have zAu_1 : fb.length ≤ cu_ - 1 := by have := Zu.out; omega
  clear hAu1
  have wu : IntKind.u8.wrap ((nx : Int) + (ny : Int) - 2) = (nn : Int) := by rw [IntKind.wrap_u8]; have := ENN.out; have := HN.out; omega
  have hlen_ := HN.out
  have LA := Aside0.mk (show fa.length ≤ 251 by omega)
  have LB := Aside0.mk (show fb.length ≤ 251 by omega)
  clear hnx_ hny_ hlen_
  have RQD := Aside0.mk (H.out.dr.f.2)
  have JB := Aside0.mk (join_bytes (nn := nn) HBA.out HBB.out (by have := ENN.out; have := HN.out; omega))
  have JL := Aside0.mk (show ((nn : Int) :: (fa ++ fb)).length = nx + ny - 1 from by have := ENX.out; have := ENY.out; simp; omega)
  have HB := Aside0.mk (Below.refl wq.drew.heap.size (wq.drew))
  refine start_ (n := 19) (S := fun w' => True) (ds := []) #[false, false, false, false, false, false, false, false, false, false, false, false, false, false, false, false, false, false, false] (by kernel_rfl) rfl rfl trivial (fun hHeld => ?_)
  refine with_tabW joins.tab17 joins.bits17 (fun HT_ HW_ => ?_)
  refine pure_ (i := 0) (N := some 96) (v := ?_) (a' := ?_) #[true, false, false, false, false, false, false, false, false, false, false, false, false, false, false, false, false, false, false] rfl rfl (any_of HT_.out (by kernel_rfl)) (fun _ _ _ h => h) (Or.inl ⟨by rfl, ?_⟩) ?_ ?_
  rotate_left
  · intro w'
    go_simp
    with_reducible rfl
  rotate_left
  · simp only [Act.put, List.setIfInBounds_toArray, List.set_cons_zero, List.set_cons_succ, i64_w, i32_w]
    rfl
  refine pure_ (i := 1) (N := some 97) (v := ?_) (a' := ?_) #[true, true, false, false, false, false, false, false, false, false, false, false, false, false, false, false, false, false, false] rfl rfl (any_of HT_.out (by kernel_rfl)) (fun _ _ _ h => h) (Or.inl ⟨by rfl, ?_⟩) ?_ ?_
  rotate_left
  · intro w'
    go_simp
    with_reducible rfl
  rotate_left
  · simp only [Act.put, List.setIfInBounds_toArray, List.set_cons_zero, List.set_cons_succ, i64_w, i32_w]
    rfl
  refine pure_ (i := 2) (N := some 98) (v := ?_) (a' := ?_) #[true, true, true, false, false, false, false, false, false, false, false, false, false, false, false, false, false, false, false] rfl rfl (any_of HT_.out (by kernel_rfl)) (fun _ _ _ h => h) (Or.inl ⟨by rfl, ?_⟩) ?_ ?_
  rotate_left
  · intro w'
    go_simp
    with_reducible rfl
  rotate_left
  · simp only [Act.put, List.setIfInBounds_toArray, List.set_cons_zero, List.set_cons_succ, i64_w, i32_w]
    rfl
  refine pure_ (i := 3) (N := some 99) (v := ?_) (a' := ?_) #[true, true, true, true, false, false, false, false, false, false, false, false, false, false, false, false, false, false, false] rfl rfl (any_of HT_.out (by kernel_rfl)) (fun _ _ _ h => h) (Or.inl ⟨by rfl, ?_⟩) ?_ ?_
  rotate_left
  · intro w'
    go_simp
    with_reducible rfl
  rotate_left
  · simp only [Act.put, List.setIfInBounds_toArray, List.set_cons_zero, List.set_cons_succ, i64_w, i32_w]
    rfl
  refine pure_ (i := 4) (N := some 100) (v := ?_) (a' := ?_) #[true, true, true, true, true, false, false, false, false, false, false, false, false, false, false, false, false, false, false] rfl rfl (any_of HT_.out (by kernel_rfl)) (fun _ _ _ h => h) (Or.inl ⟨by rfl, ?_⟩) ?_ ?_
  rotate_left
  · intro w'
    go_simp
    with_reducible rfl
  rotate_left
  · simp only [Act.put, List.setIfInBounds_toArray, List.set_cons_zero, List.set_cons_succ, i64_w, i32_w]
    rfl
  refine pure_ (i := 5) (N := some 101) (v := ?_) (a' := ?_) #[true, true, true, true, true, true, false, false, false, false, false, false, false, false, false, false, false, false, false] rfl rfl (any_of HT_.out (by kernel_rfl)) (fun _ _ _ h => h) (Or.inl ⟨by rfl, ?_⟩) ?_ ?_
  rotate_left
  · intro w'
    go_simp
    with_reducible rfl
  rotate_left
  · simp only [Act.put, List.setIfInBounds_toArray, List.set_cons_zero, List.set_cons_succ, i64_w, i32_w]
    rfl
  refine pure_ (i := 6) (N := some 102) (v := ?_) (a' := ?_) #[true, true, true, true, true, true, true, false, false, false, false, false, false, false, false, false, false, false, false] rfl rfl (any_of HT_.out (by kernel_rfl)) (fun _ _ _ h => h) (Or.inl ⟨by rfl, ?_⟩) ?_ ?_
  rotate_left
  · intro w'
    go_simp
    with_reducible rfl
  rotate_left
  · simp only [Act.put, List.setIfInBounds_toArray, List.set_cons_zero, List.set_cons_succ, i64_w, i32_w]
    rfl
  refine pure_ (i := 7) (N := some 103) (v := ?_) (a' := ?_) #[true, true, true, true, true, true, true, true, false, false, false, false, false, false, false, false, false, false, false] rfl rfl (any_of HT_.out (by kernel_rfl)) (fun _ _ _ h => h) (Or.inl ⟨by rfl, ?_⟩) ?_ ?_
  rotate_left
  · intro w'
    go_simp
    with_reducible rfl
  rotate_left
  · simp only [Act.put, List.setIfInBounds_toArray, List.set_cons_zero, List.set_cons_succ, i64_w, i32_w]
    rfl
  refine pure_ (i := 8) (N := some 104) (v := ?_) (a' := ?_) #[true, true, true, true, true, true, true, true, true, false, false, false, false, false, false, false, false, false, false] rfl rfl (any_of HT_.out (by kernel_rfl)) (fun _ _ _ h => h) (Or.inl ⟨by rfl, ?_⟩) ?_ ?_
  rotate_left
  · intro w'
    go_simp
    with_reducible rfl
  rotate_left
  · simp only [Act.put, List.setIfInBounds_toArray, List.set_cons_zero, List.set_cons_succ, i64_w, i32_w]
    rfl
  refine pure_ (i := 10) (N := some 106) (v := ?_) (a' := ?_) #[true, true, true, true, true, true, true, true, true, false, true, false, false, false, false, false, false, false, false] rfl rfl (any_of HT_.out (by kernel_rfl)) (fun _ _ _ h => h) (Or.inl ⟨by rfl, ?_⟩) ?_ ?_
  rotate_left
  · intro w'
    go_simp
    with_reducible rfl
  rotate_left
  · simp only [Act.put, List.setIfInBounds_toArray, List.set_cons_zero, List.set_cons_succ, i64_w, i32_w]
    rfl
  refine pure_ (i := 11) (N := some 107) (v := ?_) (a' := ?_) #[true, true, true, true, true, true, true, true, true, false, true, true, false, false, false, false, false, false, false] rfl rfl (any_of HT_.out (by kernel_rfl)) (fun _ _ _ h => h) (Or.inl ⟨by rfl, ?_⟩) ?_ ?_
  rotate_left
  · intro w'
    go_simp
    with_reducible rfl
  rotate_left
  · simp only [Act.put, List.setIfInBounds_toArray, List.set_cons_zero, List.set_cons_succ, i64_w, i32_w]
    rfl
  refine pure_ (i := 13) (N := some 109) (v := ?_) (a' := ?_) #[true, true, true, true, true, true, true, true, true, false, true, true, false, true, false, false, false, false, false] rfl rfl (any_of HT_.out (by kernel_rfl)) (fun _ _ _ h => h) (Or.inl ⟨by rfl, ?_⟩) ?_ ?_
  rotate_left
  · intro w'
    go_simp
    with_reducible rfl
  rotate_left
  · simp only [Act.put, List.setIfInBounds_toArray, List.set_cons_zero, List.set_cons_succ, i64_w, i32_w]
    rfl
  refine pure_ (i := 14) (N := some 110) (v := ?_) (a' := ?_) #[true, true, true, true, true, true, true, true, true, false, true, true, false, true, true, false, false, false, false] rfl rfl (any_of HT_.out (by kernel_rfl)) (fun _ _ _ h => h) (Or.inl ⟨by rfl, ?_⟩) ?_ ?_
  rotate_left
  · intro w'
    go_simp
    with_reducible rfl
  rotate_left
  · simp only [Act.put, List.setIfInBounds_toArray, List.set_cons_zero, List.set_cons_succ, i64_w, i32_w]
    rfl
  refine inv_at [9, 12, 15, 16, 17, 18] (fun a0_ b a w' => ∃ (v9 : Value) (v12 : Value) (v15 : Value), a = putSel a0_ b [(9, 105, v9), (12, 108, v12), (15, 111, v15), (16, 112, .bool true), (17, 113, .bool true), (18, 6, .bool true)] ∧ (Below wq.drew.heap.size wq.drew w') ∧ (b 9 = true → b 12 = false → Kd.R (Kd.int .u8) 5 w' wq.drew.heap.size (fun _ => True) v9 ([(nn : Int)])) ∧ (b 12 = true → b 15 = false → Kd.R (Kd.int .u8) 5 w' wq.drew.heap.size (fun _ => True) v12 ([(nn : Int)] ++ fa)) ∧ (b 15 = true → b 16 = false → Kd.R (Kd.int .u8) 5 w' wq.drew.heap.size (fun _ => True) v15 (([(nn : Int)] ++ fa) ++ fb))) HT_.out HW_.out (by kernel_rfl) (by kernel_rfl) ?_ ?_ ?_
  · exact ⟨.bool false, .bool false, .bool false, by simp only [putSel, Bool.false_eq_true, if_false], HB.out, fun h_ => absurd h_ (by decide), fun h_ => absurd h_ (by decide), fun h_ => absurd h_ (by decide)⟩
  · skip
    clear HB
    refine steps_cons ?_ ?_
    · rintro b a w' ⟨v9, v12, v15, ha, Q_HB, Q_R9, Q_R12, Q_R15⟩ hb_ hon hoff
      refine ⟨_, rfl, fun K hK => ?_⟩
      have e104 : a.tmps[104]? = some (.int .u8 (nn : Int)) := by rw [ha]; exact (putSel_off rfl).trans rfl
      have e101 : a.tmps[101]? = some (.bool true) := by rw [ha]; exact (putSel_off rfl).trans rfl
      replace ha := Aside0.mk ha
      have HB := Aside0.mk Q_HB
      refine Kd.R_lit_step (Kd.int .u8) (w0 := wq.drew) wq.drew.heap.size 5 (wanted_on rfl rfl rfl (e101.trans (by first | rfl | (simp [*]; done)))) (N := 105) rfl (xs := [(nn : Int)]) (inner := [.int .u8 ((nn : Int))]) (ok := fun _ => True) (okp := fun _ => True) ?hr (Reps.one (show Kd.M (Kd.int .u8) _ _ _ ((nn : Int)) [.int .u8 ((nn : Int))] from rfl) (Reps.none _ _)) (fun _ hk => hk) trivial HB.out HB.out.size (by simp) ?_
      case hr => first | (go_simp; done) | (go_simp; rfl)
      intro nv_ w2 hR_ hB_ hg_ hn_
      have z_R12 := fun (h0_ : b 12 = true) (h1_ : b 15 = false) => (show Kd.R (Kd.int .u8) 5 w2 wq.drew.heap.size (fun _ => True) v12 ([(nn : Int)] ++ fa) from Kd.R_grown (Q_R12 h0_ h1_) hg_ (fun _ _ => by simp))
      have z_R15 := fun (h0_ : b 15 = true) (h1_ : b 16 = false) => (show Kd.R (Kd.int .u8) 5 w2 wq.drew.heap.size (fun _ => True) v15 (([(nn : Int)] ++ fa) ++ fb) from Kd.R_grown (Q_R15 h0_ h1_) hg_ (fun _ _ => by simp))
      refine hK.out _ _ ⟨nv_, v12, v15, (by rw [ha.out]; exact putSel_upk 0 hb_ rfl rfl rfl), hB_, fun _ _ => hR_, fun h0_ _ => absurd ((hoff 12 (by kernel_rfl)).symm.trans h0_) (by decide), fun h0_ _ => absurd ((hoff 15 (by kernel_rfl)).symm.trans h0_) (by decide)⟩
    refine steps_cons ?_ ?_
    · rintro b a w' ⟨v9, v12, v15, ha, Q_HB, Q_R9, Q_R12, Q_R15⟩ hb_ hon hoff
      refine ⟨_, rfl, fun K hK => ?_⟩
      have e105 : a.tmps[105]? = some (v9) := by rw [ha]; exact putSel_on (e := (9, 105, v9)) 0 rfl rfl (hon 9 (by kernel_rfl)) rfl
      have e107 : a.tmps[107]? = some (.slice Ax1 fa.length (cx - 1)) := by rw [ha]; exact (putSel_off rfl).trans rfl
      have e101 : a.tmps[101]? = some (.bool true) := by rw [ha]; exact (putSel_off rfl).trans rfl
      replace ha := Aside0.mk ha
      have HB := Aside0.mk Q_HB
      have R9 := Aside0.mk (Q_R9 (hon 9 (by kernel_rfl)) hb_)
      have HX_ : a.eval (.tmp 107) = .slice Ax1 fa.length (cx - 1) := (by simp only [Act.eval, Array.getD_eq_getD_getElem?, Option.getD_some, e107])
      refine Kd.R_append_rows_step (Kd.int .u8) (w0 := wq.drew) wq.drew.heap.size (wanted_on rfl rfl rfl (e101.trans (by first | rfl | (simp [*]; done)))) (.tmp 105) (.tmp 107) 22 5 (.int .u8 0) 1 rfl Try.underlying22 (by kernel_rfl) rfl (by decide) (by decide) v9 ([(nn : Int)]) (fa) Ax1 (fa.length) (cx - 1) (fun _ => True) (fun _ => False) (by simp only [Act.eval, Array.getD_eq_getD_getElem?, Option.getD_some, e105]) HX_ R9.out (Kd.C_below RAx1.out HB.out) (fun _ _ h => h) (fun _ h => h.elim) (fun _ _ => trivial) HB.out HB.out.size (by have := LA.out; simp only [List.length_cons, List.length_nil]; omega) ?_
      intro nv_ w2 hR_ hB_ hg_ hat_
      refine hK.out _ _ ⟨v9, nv_, v15, (by rw [ha.out]; exact putSel_upk 1 hb_ rfl rfl rfl), hB_, fun _ h1_ => absurd ((up_self b 12).symm.trans h1_) (by decide), fun _ _ => hR_, fun h0_ _ => absurd ((hoff 15 (by kernel_rfl)).symm.trans h0_) (by decide)⟩
    refine steps_cons ?_ ?_
    · rintro b a w' ⟨v9, v12, v15, ha, Q_HB, Q_R9, Q_R12, Q_R15⟩ hb_ hon hoff
      refine ⟨_, rfl, fun K hK => ?_⟩
      have e108 : a.tmps[108]? = some (v12) := by rw [ha]; exact putSel_on (e := (12, 108, v12)) 1 rfl rfl (hon 12 (by kernel_rfl)) rfl
      have e110 : a.tmps[110]? = some (.slice Au1 fb.length (cu_ - 1)) := by rw [ha]; exact (putSel_off rfl).trans rfl
      have e101 : a.tmps[101]? = some (.bool true) := by rw [ha]; exact (putSel_off rfl).trans rfl
      replace ha := Aside0.mk ha
      have HB := Aside0.mk Q_HB
      have R12 := Aside0.mk (Q_R12 (hon 12 (by kernel_rfl)) hb_)
      have HX_ : a.eval (.tmp 110) = .slice Au1 fb.length (cu_ - 1) := (by simp only [Act.eval, Array.getD_eq_getD_getElem?, Option.getD_some, e110])
      refine Kd.R_append_rows_step (Kd.int .u8) (w0 := wq.drew) wq.drew.heap.size (wanted_on rfl rfl rfl (e101.trans (by first | rfl | (simp [*]; done)))) (.tmp 108) (.tmp 110) 22 5 (.int .u8 0) 1 rfl Try.underlying22 (by kernel_rfl) rfl (by decide) (by decide) v12 ([(nn : Int)] ++ fa) (fb) Au1 (fb.length) (cu_ - 1) (fun _ => True) (fun _ => False) (by simp only [Act.eval, Array.getD_eq_getD_getElem?, Option.getD_some, e108]) HX_ R12.out (Kd.C_below RAu1.out HB.out) (fun _ _ h => h) (fun _ h => h.elim) (fun _ _ => trivial) HB.out HB.out.size (by have := LA.out; have := LB.out; simp only [List.length_append, List.length_cons, List.length_nil]; omega) ?_
      intro nv_ w2 hR_ hB_ hg_ hat_
      refine hK.out _ _ ⟨v9, v12, nv_, (by rw [ha.out]; exact putSel_upk 2 hb_ rfl rfl rfl), hB_, fun _ h1_ => absurd ((hon 12 (by kernel_rfl)).symm.trans h1_) (by decide), fun _ h1_ => absurd ((up_self b 15).symm.trans h1_) (by decide), fun _ _ => hR_⟩
    refine steps_cons ?_ ?_
    · rintro b a w' ⟨v9, v12, v15, ha, Q_HB, Q_R9, Q_R12, Q_R15⟩ hb_ hon hoff
      refine ⟨_, rfl, fun K hK => ?_⟩
      have e102 : a.tmps[102]? = some (.slice Aq (nx + ny - 1) cq_) := by rw [ha]; exact (putSel_off rfl).trans rfl
      have e111 : a.tmps[111]? = some (v15) := by rw [ha]; exact putSel_on (e := (15, 111, v15)) 2 rfl rfl (hon 15 (by kernel_rfl)) rfl
      have e101 : a.tmps[101]? = some (.bool true) := by rw [ha]; exact (putSel_off rfl).trans rfl
      replace ha := Aside0.mk ha
      have HB := Aside0.mk Q_HB
      have R15 := Aside0.mk (Q_R15 (hon 15 (by kernel_rfl)) hb_)
      obtain ⟨A_, c_, ev_, hc_, hr_⟩ := Kd.R_reads R15.out
      rw [ev_] at e111
      refine goes_ Try.func18 (by kernel_rfl) rfl #[.slice Aq (nx + ny - 1) cq_, .slice A_ (([(nn : Int)] ++ fa) ++ fb).length c_] (wanted_on rfl rfl rfl (e101.trans (by first | rfl | (simp [*]; done)))) rfl rfl (by first | (simp only [List.map_toArray, List.map_cons, List.map_nil, Act.eval, Array.getD_eq_getD_getElem?, Option.getD_some, e102, e111, e101]; done) | (simp only [List.map_toArray, List.map_cons, List.map_nil, Act.eval, Array.getD_eq_getD_getElem?, Option.getD_some, e102, e111, e101]; rfl)) ?_
      with_reducible refine (same_e (xs := (nn : Int) :: (fa ++ fb)) (ys := ([(nn : Int)] ++ fa) ++ fb) JB.out (by simp) JL.out rfl (Kd.C_below RQD.out HB.out) Zq.out hr_ hc_).mono ?_
      rintro en w2 ⟨rfl, hB_⟩
      refine ⟨_, rfl, ?_⟩
      have z_R9 := fun (h0_ : b 9 = true) (h1_ : b 12 = false) => (show Kd.R (Kd.int .u8) 5 w2 wq.drew.heap.size (fun _ => True) v9 ([(nn : Int)]) from Kd.R_below (Q_R9 h0_ h1_) hB_)
      have z_R12 := fun (h0_ : b 12 = true) (h1_ : b 15 = false) => (show Kd.R (Kd.int .u8) 5 w2 wq.drew.heap.size (fun _ => True) v12 ([(nn : Int)] ++ fa) from Kd.R_below (Q_R12 h0_ h1_) hB_)
      refine hK.out _ _ ⟨v9, v12, v15, (by rw [ha.out]; exact putSel_upk 3 hb_ rfl rfl rfl), HB.out.trans (hB_.mono HB.out.size), fun _ h1_ => absurd ((hon 12 (by kernel_rfl)).symm.trans h1_) (by decide), fun _ h1_ => absurd ((hon 15 (by kernel_rfl)).symm.trans h1_) (by decide), fun _ h1_ => absurd ((up_self b 16).symm.trans h1_) (by decide)⟩
    refine steps_cons ?_ ?_
    · rintro b a w' ⟨v9, v12, v15, ha, Q_HB, Q_R9, Q_R12, Q_R15⟩ hb_ hon hoff
      refine ⟨_, rfl, fun K hK => ?_⟩
      have e101 : a.tmps[101]? = some (.bool true) := by rw [ha]; exact (putSel_off rfl).trans rfl
      have e112 : a.tmps[112]? = some (.bool true) := by rw [ha]; exact putSel_on (e := (16, 112, .bool true)) 3 rfl rfl (hon 16 (by kernel_rfl)) rfl
      replace ha := Aside0.mk ha
      have HB := Aside0.mk Q_HB
      refine value_ (w1 := w') (v := .bool true) (by rfl) rfl ?_ ?_
      · go_simp
        (try simp only [i64_w])
        try rfl
      refine hK.out _ _ ⟨v9, v12, v15, (by rw [ha.out]; exact putSel_upk 4 hb_ rfl rfl rfl), Q_HB, fun _ h1_ => absurd ((hon 12 (by kernel_rfl)).symm.trans h1_) (by decide), fun _ h1_ => absurd ((hon 15 (by kernel_rfl)).symm.trans h1_) (by decide), fun _ h1_ => absurd ((hon 16 (by kernel_rfl)).symm.trans h1_) (by decide)⟩
    refine steps_cons ?_ ?_
    · rintro b a w' ⟨v9, v12, v15, ha, Q_HB, Q_R9, Q_R12, Q_R15⟩ hb_ hon hoff
      refine ⟨_, rfl, fun K hK => ?_⟩
      have e113 : a.tmps[113]? = some (.bool true) := by rw [ha]; exact putSel_on (e := (17, 113, .bool true)) 4 rfl rfl (hon 17 (by kernel_rfl)) rfl
      replace ha := Aside0.mk ha
      have HB := Aside0.mk Q_HB
      refine value_ (w1 := w') (v := .bool true) (by rfl) rfl ?_ ?_
      · go_simp
        (try simp only [i64_w])
        try rfl
      refine hK.out _ _ ⟨v9, v12, v15, (by rw [ha.out]; exact putSel_upk 5 hb_ rfl rfl rfl), Q_HB, fun _ h1_ => absurd ((hon 12 (by kernel_rfl)).symm.trans h1_) (by decide), fun _ h1_ => absurd ((hon 15 (by kernel_rfl)).symm.trans h1_) (by decide), fun _ h1_ => absurd ((hon 16 (by kernel_rfl)).symm.trans h1_) (by decide)⟩
    exact steps_nil
  rintro b a w17 hall ⟨v9, v12, v15, ha, Q_HB, Q_R9, Q_R12, Q_R15⟩
  clear HB
  have hb9_ := hall 9 (by kernel_rfl)
  have hb12_ := hall 12 (by kernel_rfl)
  have hb15_ := hall 15 (by kernel_rfl)
  have hb16_ := hall 16 (by kernel_rfl)
  have hb17_ := hall 17 (by kernel_rfl)
  have hb18_ := hall 18 (by kernel_rfl)
  subst ha
  simp only [putSel, hb9_, hb12_, hb15_, hb16_, hb17_, hb18_, if_true, Act.put, List.setIfInBounds_toArray, List.set_cons_zero, List.set_cons_succ]
  have HB := Aside0.mk Q_HB
  clear Q_HB
  clear Q_R9
  clear Q_R12
  clear Q_R15
  clear hall hb9_ hb12_ hb15_ hb16_ hb17_ hb18_
  have n0_ := Aside0.mk ((H.out.dr).on HB.out)
  clear H HB
  have H := n0_
  clear n0_
  go_wp2
  go_ret
  exact ⟨by first | rfl | (simp; done), H.out.b⟩
theorem Joins_ea1 {A B : Option Addr} {ca cb : Nat} {a b : List S43} {w : World} (hra : Kd.C k43 w A a.length a) (hca : a.length ≤ ca) (hrb : Kd.C k43 w B b.length b) (hcb : b.length ≤ cb) (ha : ∀ x ∈ a, goodRec x) (hb : ∀ x ∈ b, goodRec x) (hfa : fewB (mkF 21 a) = true) (hfb : fewB (mkF 21 b) = true) (hwa : write 1 (mkF 21 a) = ([], 1)) :
    Calls Try.prog 9 #[.bool true, .slice A a.length ca, .slice B b.length cb] w fun en w' => en = .returned (.bool true) ∧ Below w.heap.size w w' := by
  have Hca := Aside0.mk hca
  have Hcb := Aside0.mk hcb
  have Ga := Aside0.mk ha
  have Gb := Aside0.mk hb
  have HRA := Aside0.mk hra
  have HRB := Aside0.mk hrb
  have H := Aside0.mk (Hd.start w)
  have n0_ := Aside0.mk (((H.out).add (sta_R _ _ _) (hra)).add (sta_R _ _ _) (hrb))
  clear H
  have H := n0_
  clear n0_
  clear hra hca hrb hcb ha hb
  have HFA := Aside0.mk hfa
  have HFB := Aside0.mk hfb
  clear hfa hfb
  have hs1_ := few_small HFA.out 1
  have hs2_ := few_small HFB.out 1
  have ha_ := hwa
  have HWA := Aside0.mk (show WriteC 16 1 (mkF 21 a) ([], 1) from mk_c hs1_.1 hs1_.2.1 ha_)
  obtain ⟨R, hb_⟩ : ∃ z, write 1 (mkF 21 b) = z := ⟨_, rfl⟩
  have HWB := Aside0.mk (show WriteC 16 1 (mkF 21 b) R from mk_c hs2_.1 hs2_.2.1 hb_)
  clear hwa ha_ hb_ hs1_ hs2_
  go_enter Try.func9, Try.ntmps9
  go_upto_region 2 with (first | (go_at_call 11; (with_reducible refine (AwakeC.c awake_c _).mono ?_); rintro en wa ⟨rfl, hb_⟩; have n0_ := Aside0.mk (H.out.on hb_); clear H; have H := n0_; clear n0_; clear hb_))
  go_upto_region 3 with (first | ((with_reducible refine gate_dst (N := 20) rfl ?_); (try (refine gate_guard (by rfl) ?_; dsimp only)); refine ev_build (zeroC.setIfInBounds 15 (.slice A a.length ca)) rfl (by first | (go_simp; done) | (go_simp; rfl)) ?_; intro cy hcx_; have mx_ := (show IsMsg _ (zeroC.setIfInBounds 15 (.slice A a.length ca)) ({ zeroM with recs := a }) from (set_recs (zero_is _) (n := ca) Hca.out (fun o ho => Ga.out o ho) (H.out.f.1.2))); rw [← hcx_] at mx_; have n0_ := Aside0.mk ((H.out).add (sta_msg _ _) (mx_)); clear H; have H := n0_; clear n0_; clear hcx_ mx_) | (go_at_call 15; (with_reducible refine (few_n HFA.out (H.out.f.2)).mono ?_); rintro en wf ⟨rfl, hb_⟩; have n0_ := Aside0.mk (H.out.on hb_); clear H; have H := n0_; clear n0_; clear hb_))
  go_upto_region 4 with (first | ((with_reducible refine gate_dst (N := 23) rfl ?_); (try (refine gate_guard (by rfl) ?_; dsimp only)); refine ev_build (zeroC.setIfInBounds 15 (.slice B b.length cb)) rfl (by first | (go_simp; done) | (go_simp; rfl)) ?_; intro cz hcx_; have mx_ := (show IsMsg _ (zeroC.setIfInBounds 15 (.slice B b.length cb)) ({ zeroM with recs := b }) from (set_recs (zero_is _) (n := cb) Hcb.out (fun o ho => Gb.out o ho) (H.out.f.1.2))); rw [← hcx_] at mx_; have n0_ := Aside0.mk ((H.out).add (sta_msg _ _) (mx_)); clear H; have H := n0_; clear n0_; clear hcx_ mx_) | (go_at_call 15; (with_reducible refine (few_n HFB.out (H.out.f.2)).mono ?_); rintro en wg ⟨rfl, hb_⟩; have n0_ := Aside0.mk (H.out.on hb_); clear H; have H := n0_; clear n0_; clear hb_))
  go_upto_region 10 with (first | ((with_reducible refine gate_dst (N := 36) rfl ?_); (try (refine gate_guard (by rfl) ?_; dsimp only)); refine ev_build ((codeC 21).setIfInBounds 15 (.slice A a.length ca)) rfl (by first | (go_simp; done) | (go_simp; rfl)) ?_; intro cm hcx_; have mx_ := (show IsMsg _ ((codeC 21).setIfInBounds 15 (.slice A a.length ca)) (mkF 21 a) from (mkF_is (code := 21) (l := a) (by decide) (n := ca) Hca.out (fun o ho => Ga.out o ho) (H.out.f.1.1.1.2))); rw [← hcx_] at mx_; have n0_ := Aside0.mk ((H.out).add (sta_msg _ _) (mx_)); clear H; have H := n0_; clear n0_; clear hcx_ mx_) | (go_at_call 16; (with_reducible refine (WriteC.n HWA.out (n := 0) rfl H.out.f.2).mono ?_); rintro en wx ⟨Ax, cx, rfl, hz_, hr_, hb_⟩; have n0_ := Aside0.mk ((H.out.on hb_).add (sta_C _ _ _ _) (hr_)); clear H; have H := n0_; clear n0_; have Zx := Aside0.mk hz_; clear hb_ hr_ hz_))
  go_upto_region 11 with (first | ((with_reducible refine gate_dst (N := 43) rfl ?_); (try (refine gate_guard (by rfl) ?_; dsimp only)); refine ev_build ((codeC 21).setIfInBounds 15 (.slice B b.length cb)) rfl (by first | (go_simp; done) | (go_simp; rfl)) ?_; intro cn hcx_; have mx_ := (show IsMsg _ ((codeC 21).setIfInBounds 15 (.slice B b.length cb)) (mkF 21 b) from (mkF_is (code := 21) (l := b) (by decide) (n := cb) Hcb.out (fun o ho => Gb.out o ho) (H.out.f.1.1.1.1.2))); rw [← hcx_] at mx_; have n0_ := Aside0.mk ((H.out).add (sta_msg _ _) (mx_)); clear H; have H := n0_; clear n0_; clear hcx_ mx_) | (go_at_call 16; (with_reducible refine (WriteC.c HWB.out H.out.f.2).mono ?_); rintro en wu ⟨Au, cu_, rfl, hz_, hr_, hb_⟩; have n0_ := Aside0.mk ((H.out.on hb_).add (sta_C _ _ _ _) (hr_)); clear H; have H := n0_; clear n0_; have Zu := Aside0.mk hz_; clear hb_ hr_ hz_))
  go_wp2
  go_ret
  exact ⟨by first | rfl | (simp; done), H.out.b⟩
theorem Joins_eb1 {A B : Option Addr} {ca cb : Nat} {a b : List S43} {w : World} (hra : Kd.C k43 w A a.length a) (hca : a.length ≤ ca) (hrb : Kd.C k43 w B b.length b) (hcb : b.length ≤ cb) (ha : ∀ x ∈ a, goodRec x) (hb : ∀ x ∈ b, goodRec x) (hfa : fewB (mkF 21 a) = true) (hfb : fewB (mkF 21 b) = true) {X : List Int} (hwa : write 1 (mkF 21 a) = (X, 0)) (hwb : write 1 (mkF 21 b) = ([], 1)) :
    Calls Try.prog 9 #[.bool true, .slice A a.length ca, .slice B b.length cb] w fun en w' => en = .returned (.bool true) ∧ Below w.heap.size w w' := by
  have Hca := Aside0.mk hca
  have Hcb := Aside0.mk hcb
  have Ga := Aside0.mk ha
  have Gb := Aside0.mk hb
  have HRA := Aside0.mk hra
  have HRB := Aside0.mk hrb
  have H := Aside0.mk (Hd.start w)
  have n0_ := Aside0.mk (((H.out).add (sta_R _ _ _) (hra)).add (sta_R _ _ _) (hrb))
  clear H
  have H := n0_
  clear n0_
  clear hra hca hrb hcb ha hb
  have HFA := Aside0.mk hfa
  have HFB := Aside0.mk hfb
  clear hfa hfb
  have hs1_ := few_small HFA.out 1
  have hs2_ := few_small HFB.out 1
  have ha_ := hwa
  have hb_ := hwb
  have HWA := Aside0.mk (show WriteC 16 1 (mkF 21 a) (X, 0) from mk_c hs1_.1 hs1_.2.1 ha_)
  have HWB := Aside0.mk (show WriteC 16 1 (mkF 21 b) ([], 1) from mk_c hs2_.1 hs2_.2.1 hb_)
  obtain ⟨nx, enx_⟩ : ∃ z, z = X.length := ⟨_, rfl⟩
  have ENX := Aside0.mk enx_
  clear hwa ha_ hwb hb_ hs1_ hs2_ enx_
  go_enter Try.func9, Try.ntmps9
  go_upto_region 2 with (first | (go_at_call 11; (with_reducible refine (AwakeC.c awake_c _).mono ?_); rintro en wa ⟨rfl, hb_⟩; have n0_ := Aside0.mk (H.out.on hb_); clear H; have H := n0_; clear n0_; clear hb_))
  go_upto_region 3 with (first | ((with_reducible refine gate_dst (N := 20) rfl ?_); (try (refine gate_guard (by rfl) ?_; dsimp only)); refine ev_build (zeroC.setIfInBounds 15 (.slice A a.length ca)) rfl (by first | (go_simp; done) | (go_simp; rfl)) ?_; intro cy hcx_; have mx_ := (show IsMsg _ (zeroC.setIfInBounds 15 (.slice A a.length ca)) ({ zeroM with recs := a }) from (set_recs (zero_is _) (n := ca) Hca.out (fun o ho => Ga.out o ho) (H.out.f.1.2))); rw [← hcx_] at mx_; have n0_ := Aside0.mk ((H.out).add (sta_msg _ _) (mx_)); clear H; have H := n0_; clear n0_; clear hcx_ mx_) | (go_at_call 15; (with_reducible refine (few_n HFA.out (H.out.f.2)).mono ?_); rintro en wf ⟨rfl, hb_⟩; have n0_ := Aside0.mk (H.out.on hb_); clear H; have H := n0_; clear n0_; clear hb_))
  go_upto_region 4 with (first | ((with_reducible refine gate_dst (N := 23) rfl ?_); (try (refine gate_guard (by rfl) ?_; dsimp only)); refine ev_build (zeroC.setIfInBounds 15 (.slice B b.length cb)) rfl (by first | (go_simp; done) | (go_simp; rfl)) ?_; intro cz hcx_; have mx_ := (show IsMsg _ (zeroC.setIfInBounds 15 (.slice B b.length cb)) ({ zeroM with recs := b }) from (set_recs (zero_is _) (n := cb) Hcb.out (fun o ho => Gb.out o ho) (H.out.f.1.2))); rw [← hcx_] at mx_; have n0_ := Aside0.mk ((H.out).add (sta_msg _ _) (mx_)); clear H; have H := n0_; clear n0_; clear hcx_ mx_) | (go_at_call 15; (with_reducible refine (few_n HFB.out (H.out.f.2)).mono ?_); rintro en wg ⟨rfl, hb_⟩; have n0_ := Aside0.mk (H.out.on hb_); clear H; have H := n0_; clear n0_; clear hb_))
  go_upto_region 10 with (first | ((with_reducible refine gate_dst (N := 36) rfl ?_); (try (refine gate_guard (by rfl) ?_; dsimp only)); refine ev_build ((codeC 21).setIfInBounds 15 (.slice A a.length ca)) rfl (by first | (go_simp; done) | (go_simp; rfl)) ?_; intro cm hcx_; have mx_ := (show IsMsg _ ((codeC 21).setIfInBounds 15 (.slice A a.length ca)) (mkF 21 a) from (mkF_is (code := 21) (l := a) (by decide) (n := ca) Hca.out (fun o ho => Ga.out o ho) (H.out.f.1.1.1.2))); rw [← hcx_] at mx_; have n0_ := Aside0.mk ((H.out).add (sta_msg _ _) (mx_)); clear H; have H := n0_; clear n0_; clear hcx_ mx_) | (go_at_call 16; (with_reducible refine (WriteC.n HWA.out (n := nx) ENX.out.symm H.out.f.2).mono ?_); rintro en wx ⟨Ax, cx, rfl, hz_, hr_, hb_⟩; have n0_ := Aside0.mk ((H.out.on hb_).add (sta_C _ _ _ _) (hr_)); clear H; have H := n0_; clear n0_; have Zx := Aside0.mk hz_; clear hb_ hr_ hz_))
  go_upto_region 11 with (first | ((with_reducible refine gate_dst (N := 43) rfl ?_); (try (refine gate_guard (by rfl) ?_; dsimp only)); refine ev_build ((codeC 21).setIfInBounds 15 (.slice B b.length cb)) rfl (by first | (go_simp; done) | (go_simp; rfl)) ?_; intro cn hcx_; have mx_ := (show IsMsg _ ((codeC 21).setIfInBounds 15 (.slice B b.length cb)) (mkF 21 b) from (mkF_is (code := 21) (l := b) (by decide) (n := cb) Hcb.out (fun o ho => Gb.out o ho) (H.out.f.1.1.1.1.2))); rw [← hcx_] at mx_; have n0_ := Aside0.mk ((H.out).add (sta_msg _ _) (mx_)); clear H; have H := n0_; clear n0_; clear hcx_ mx_) | (go_at_call 16; (with_reducible refine (WriteC.n HWB.out (n := 0) rfl H.out.f.2).mono ?_); rintro en wu ⟨Au, cu_, rfl, hz_, hr_, hb_⟩; have n0_ := Aside0.mk ((H.out.on hb_).add (sta_C _ _ _ _) (hr_)); clear H; have H := n0_; clear n0_; have Zu := Aside0.mk hz_; clear hb_ hr_ hz_))
  go_wp2
  go_ret
  exact ⟨by first | rfl | (simp; done), H.out.b⟩
theorem Joins_long1 {A B : Option Addr} {ca cb : Nat} {a b : List S43} {w : World} (hra : Kd.C k43 w A a.length a) (hca : a.length ≤ ca) (hrb : Kd.C k43 w B b.length b) (hcb : b.length ≤ cb) (ha : ∀ x ∈ a, goodRec x) (hb : ∀ x ∈ b, goodRec x) (hfa : fewB (mkF 21 a) = true) (hfb : fewB (mkF 21 b) = true) {fa fb : List Int} (hwa : write 1 (mkF 21 a) = ((fa.length : Int) :: fa, 0)) (hwb : write 1 (mkF 21 b) = ((fb.length : Int) :: fb, 0)) (hba : isBytes fa) (hbb : isBytes fb) (hla : fa.length ≤ 251) (hlb : fb.length ≤ 251) {nn : Nat} (hnn : nn = fa.length + fb.length) (hn : ¬ fa.length + fb.length ≤ 251) (hp : 1 ≤ fa.length) (hq : 1 ≤ fb.length) (hwc : WriteC 16 1 (mkF 21 (a ++ b)) ([], 1)) :
    Calls Try.prog 9 #[.bool true, .slice A a.length ca, .slice B b.length cb] w fun en w' => en = .returned (.bool true) ∧ Below w.heap.size w w' := by
  have Hca := Aside0.mk hca
  have Hcb := Aside0.mk hcb
  have Ga := Aside0.mk ha
  have Gb := Aside0.mk hb
  have HRA := Aside0.mk hra
  have HRB := Aside0.mk hrb
  have H := Aside0.mk (Hd.start w)
  have n0_ := Aside0.mk (((H.out).add (sta_R _ _ _) (hra)).add (sta_R _ _ _) (hrb))
  clear H
  have H := n0_
  clear n0_
  clear hra hca hrb hcb ha hb
  have HFA := Aside0.mk hfa
  have HFB := Aside0.mk hfb
  clear hfa hfb
  have hs1_ := few_small HFA.out 1
  have hs2_ := few_small HFB.out 1
  have ha_ := hwa
  have hb_ := hwb
  have HWA := Aside0.mk (show WriteC 16 1 (mkF 21 a) ((fa.length : Int) :: fa, 0) from mk_c hs1_.1 hs1_.2.1 ha_)
  have HWB := Aside0.mk (show WriteC 16 1 (mkF 21 b) ((fb.length : Int) :: fb, 0) from mk_c hs2_.1 hs2_.2.1 hb_)
  have HWC := Aside0.mk hwc
  have HBA := Aside0.mk hba
  have HBB := Aside0.mk hbb
  have EL1 := Aside0.mk (few_len HFA.out)
  have EL2 := Aside0.mk (few_len HFB.out)
  obtain ⟨nx, enx_⟩ : ∃ z, z = fa.length + 1 := ⟨_, rfl⟩
  obtain ⟨ny, eny_⟩ : ∃ z, z = fb.length + 1 := ⟨_, rfl⟩
  have gx : ((nx : Int) == 0) = false := beq_eq_false_iff_ne.2 (by omega)
  have gy : ((ny : Int) == 0) = false := beq_eq_false_iff_ne.2 (by omega)
  have wxy : wrap64 ((nx : Int) + (ny : Int)) = (nx : Int) + (ny : Int) := wrap64_id (by omega) (by omega)
  have wx2 : wrap64 ((nx : Int) + (ny : Int) - 2) = (nx : Int) + (ny : Int) - 2 := wrap64_id (by omega) (by omega)
  have dn : decide ((nx : Int) + (ny : Int) - 2 > 251) = true := decide_eq_true (by omega)
  have ENX := Aside0.mk enx_
  have ENY := Aside0.mk eny_
  have HN := Aside0.mk hn
  have ENN := Aside0.mk hnn
  clear hp hq hnn hwa ha_ hwb hb_ hs1_ hs2_ enx_ eny_ hwc hba hbb hn hla hlb
  go_enter Try.func9, Try.ntmps9
  go_upto_region 2 with (first | (go_at_call 11; (with_reducible refine (AwakeC.c awake_c _).mono ?_); rintro en wa ⟨rfl, hb_⟩; have n0_ := Aside0.mk (H.out.on hb_); clear H; have H := n0_; clear n0_; clear hb_))
  go_upto_region 3 with (first | ((with_reducible refine gate_dst (N := 20) rfl ?_); (try (refine gate_guard (by rfl) ?_; dsimp only)); refine ev_build (zeroC.setIfInBounds 15 (.slice A a.length ca)) rfl (by first | (go_simp; done) | (go_simp; rfl)) ?_; intro cy hcx_; have mx_ := (show IsMsg _ (zeroC.setIfInBounds 15 (.slice A a.length ca)) ({ zeroM with recs := a }) from (set_recs (zero_is _) (n := ca) Hca.out (fun o ho => Ga.out o ho) (H.out.f.1.2))); rw [← hcx_] at mx_; have n0_ := Aside0.mk ((H.out).add (sta_msg _ _) (mx_)); clear H; have H := n0_; clear n0_; clear hcx_ mx_) | (go_at_call 15; (with_reducible refine (few_n HFA.out (H.out.f.2)).mono ?_); rintro en wf ⟨rfl, hb_⟩; have n0_ := Aside0.mk (H.out.on hb_); clear H; have H := n0_; clear n0_; clear hb_))
  go_upto_region 4 with (first | ((with_reducible refine gate_dst (N := 23) rfl ?_); (try (refine gate_guard (by rfl) ?_; dsimp only)); refine ev_build (zeroC.setIfInBounds 15 (.slice B b.length cb)) rfl (by first | (go_simp; done) | (go_simp; rfl)) ?_; intro cz hcx_; have mx_ := (show IsMsg _ (zeroC.setIfInBounds 15 (.slice B b.length cb)) ({ zeroM with recs := b }) from (set_recs (zero_is _) (n := cb) Hcb.out (fun o ho => Gb.out o ho) (H.out.f.1.2))); rw [← hcx_] at mx_; have n0_ := Aside0.mk ((H.out).add (sta_msg _ _) (mx_)); clear H; have H := n0_; clear n0_; clear hcx_ mx_) | (go_at_call 15; (with_reducible refine (few_n HFB.out (H.out.f.2)).mono ?_); rintro en wg ⟨rfl, hb_⟩; have n0_ := Aside0.mk (H.out.on hb_); clear H; have H := n0_; clear n0_; clear hb_))
  go_upto_region 10 with (first | ((with_reducible refine gate_dst (N := 36) rfl ?_); (try (refine gate_guard (by rfl) ?_; dsimp only)); refine ev_build ((codeC 21).setIfInBounds 15 (.slice A a.length ca)) rfl (by first | (go_simp; done) | (go_simp; rfl)) ?_; intro cm hcx_; have mx_ := (show IsMsg _ ((codeC 21).setIfInBounds 15 (.slice A a.length ca)) (mkF 21 a) from (mkF_is (code := 21) (l := a) (by decide) (n := ca) Hca.out (fun o ho => Ga.out o ho) (H.out.f.1.1.1.2))); rw [← hcx_] at mx_; have n0_ := Aside0.mk ((H.out).add (sta_msg _ _) (mx_)); clear H; have H := n0_; clear n0_; clear hcx_ mx_) | (go_at_call 16; (with_reducible refine (WriteC.n HWA.out (n := nx) (by rw [List.length_cons, ENX.out]) H.out.f.2).mono ?_); rintro en wx ⟨Ax, cx, rfl, hz_, hr_, hb_⟩; have n0_ := Aside0.mk ((H.out.on hb_).add (sta_C _ _ _ _) (hr_)); clear H; have H := n0_; clear n0_; have Zx := Aside0.mk hz_; clear hb_ hr_ hz_))
  go_upto_region 11 with (first | ((with_reducible refine gate_dst (N := 43) rfl ?_); (try (refine gate_guard (by rfl) ?_; dsimp only)); refine ev_build ((codeC 21).setIfInBounds 15 (.slice B b.length cb)) rfl (by first | (go_simp; done) | (go_simp; rfl)) ?_; intro cn hcx_; have mx_ := (show IsMsg _ ((codeC 21).setIfInBounds 15 (.slice B b.length cb)) (mkF 21 b) from (mkF_is (code := 21) (l := b) (by decide) (n := cb) Hcb.out (fun o ho => Gb.out o ho) (H.out.f.1.1.1.1.2))); rw [← hcx_] at mx_; have n0_ := Aside0.mk ((H.out).add (sta_msg _ _) (mx_)); clear H; have H := n0_; clear n0_; clear hcx_ mx_) | (go_at_call 16; (with_reducible refine (WriteC.n HWB.out (n := ny) (by rw [List.length_cons, ENY.out]) H.out.f.2).mono ?_); rintro en wu ⟨Au, cu_, rfl, hz_, hr_, hb_⟩; have n0_ := Aside0.mk ((H.out.on hb_).add (sta_C _ _ _ _) (hr_)); clear H; have H := n0_; clear n0_; have Zu := Aside0.mk hz_; clear hb_ hr_ hz_))
  obtain ⟨ra, ka_, za_⟩ := raws_of (H.out.f.1.1.1.1.1.1.1.2)
  obtain ⟨rb, kb_, zb_⟩ := raws_of (H.out.f.1.1.1.1.1.1.2)
  have KA := Aside0.mk ka_
  have KB := Aside0.mk kb_
  have ZA := Aside0.mk za_
  have ZB := Aside0.mk zb_
  clear ka_ kb_ za_ zb_
  obtain ⟨nl, enl_⟩ : ∃ z, z = a.length + b.length := ⟨_, rfl⟩
  have ENL := Aside0.mk enl_
  clear enl_
  go_upto_region 14 with (first | ((with_reducible refine gate_dst (N := 74) rfl ?_); refine ev_none rfl rfl (by first | (go_simp; done) | (go_simp; rfl)) ?_; intro v1 w31 r_ b_; have R1 := Aside0.mk r_; have B1 := Aside0.mk b_; clear r_ b_) | ((with_reducible refine gate_dst (N := 76) rfl ?_); refine ev_rapp (.tmp 74) (.tmp 75) rfl rfl rfl rfl R1.out B1.out.size (Kd.C_below KA.out B1.out) (by have := EL1.out; simp; omega) ?_; intro v2 w32 r_ b_; have R2 := Aside0.mk r_; have B2 := Aside0.mk (B1.out.trans b_); clear r_ b_ R1 B1) | ((with_reducible refine gate_dst (N := 78) rfl ?_); refine ev_rapp2 (.tmp 76) (.tmp 77) rfl rfl rfl rfl R2.out B2.out.size (Kd.C_below KB.out B2.out) (by have := EL1.out; have := EL2.out; have := ZA.out.1; simp; omega) (m := nl) (by have := ZA.out.1; have := ZB.out.1; have := ENL.out; simp; omega) ?_; intro A3 n3 w33 r_ b_; have R3 := Aside0.mk r_; have B3 := Aside0.mk (B2.out.trans b_); clear r_ b_ R2 B2; have n0_ := Aside0.mk (H.out.on B3.out); clear H; have H := n0_; clear n0_) | ((with_reducible refine gate_dst (N := 79) rfl ?_); refine ev_build ((codeC 21).setIfInBounds 15 (.slice A3 nl n3)) rfl (by first | (go_simp; done) | (go_simp; rfl)) ?_; intro cq hcx_; have mx_ := join_is (by simpa using R3.out) (fits_below ZA.out B3.out) (fits_below ZB.out B3.out) Ga.out Gb.out; rw [← hcx_] at mx_; have n0_ := Aside0.mk ((H.out).add (sta_msg _ _) (mx_)); clear H; have H := n0_; clear n0_; clear hcx_ mx_) | (go_at_call 16; (with_reducible refine (WriteC.n HWC.out (n := 0) rfl H.out.f.2).mono ?_); rintro en wq ⟨Aq, cq_, rfl, hz_, hr_, hb_⟩; have n0_ := Aside0.mk ((H.out.on hb_).add (sta_C _ _ _ _) (hr_)); clear H; have H := n0_; clear n0_; have Zq := Aside0.mk hz_; clear hb_ hr_ hz_))
  go_wp2
  go_ret
  exact ⟨by first | rfl | (simp; done), H.out.b⟩
theorem Joins_ok1 {A B : Option Addr} {ca cb : Nat} {a b : List S43} {w : World} (hra : Kd.C k43 w A a.length a) (hca : a.length ≤ ca) (hrb : Kd.C k43 w B b.length b) (hcb : b.length ≤ cb) (ha : ∀ x ∈ a, goodRec x) (hb : ∀ x ∈ b, goodRec x) (hfa : fewB (mkF 21 a) = true) (hfb : fewB (mkF 21 b) = true) {fa fb : List Int} (hwa : write 1 (mkF 21 a) = ((fa.length : Int) :: fa, 0)) (hwb : write 1 (mkF 21 b) = ((fb.length : Int) :: fb, 0)) (hba : isBytes fa) (hbb : isBytes fb) (hla : fa.length ≤ 251) (hlb : fb.length ≤ 251) {nn : Nat} (hnn : nn = fa.length + fb.length) (hn : fa.length + fb.length ≤ 251) (hp : 1 ≤ fa.length) (hq : 1 ≤ fb.length) (hwc : WriteC 16 1 (mkF 21 (a ++ b)) ((nn : Int) :: (fa ++ fb), 0)) :
    Calls Try.prog 9 #[.bool true, .slice A a.length ca, .slice B b.length cb] w fun en w' => en = .returned (.bool true) ∧ Below w.heap.size w w' := by
  have Hca := Aside0.mk hca
  have Hcb := Aside0.mk hcb
  have Ga := Aside0.mk ha
  have Gb := Aside0.mk hb
  have HRA := Aside0.mk hra
  have HRB := Aside0.mk hrb
  have H := Aside0.mk (Hd.start w)
  have n0_ := Aside0.mk (((H.out).add (sta_R _ _ _) (hra)).add (sta_R _ _ _) (hrb))
  clear H
  have H := n0_
  clear n0_
  clear hra hca hrb hcb ha hb
  have HFA := Aside0.mk hfa
  have HFB := Aside0.mk hfb
  clear hfa hfb
  have hs1_ := few_small HFA.out 1
  have hs2_ := few_small HFB.out 1
  have ha_ := hwa
  have hb_ := hwb
  have HWA := Aside0.mk (show WriteC 16 1 (mkF 21 a) ((fa.length : Int) :: fa, 0) from mk_c hs1_.1 hs1_.2.1 ha_)
  have HWB := Aside0.mk (show WriteC 16 1 (mkF 21 b) ((fb.length : Int) :: fb, 0) from mk_c hs2_.1 hs2_.2.1 hb_)
  have HWC := Aside0.mk hwc
  have HBA := Aside0.mk hba
  have HBB := Aside0.mk hbb
  have EL1 := Aside0.mk (few_len HFA.out)
  have EL2 := Aside0.mk (few_len HFB.out)
  obtain ⟨nx, enx_⟩ : ∃ z, z = fa.length + 1 := ⟨_, rfl⟩
  obtain ⟨ny, eny_⟩ : ∃ z, z = fb.length + 1 := ⟨_, rfl⟩
  have gx : ((nx : Int) == 0) = false := beq_eq_false_iff_ne.2 (by omega)
  have gy : ((ny : Int) == 0) = false := beq_eq_false_iff_ne.2 (by omega)
  have wxy : wrap64 ((nx : Int) + (ny : Int)) = (nx : Int) + (ny : Int) := wrap64_id (by omega) (by omega)
  have wx2 : wrap64 ((nx : Int) + (ny : Int) - 2) = (nx : Int) + (ny : Int) - 2 := wrap64_id (by omega) (by omega)
  have dn : decide ((nx : Int) + (ny : Int) - 2 > 251) = false := decide_eq_false (by omega)
  have ENX := Aside0.mk enx_
  have ENY := Aside0.mk eny_
  have HN := Aside0.mk hn
  have ENN := Aside0.mk hnn
  clear hp hq hnn hwa ha_ hwb hb_ hs1_ hs2_ enx_ eny_ hwc hba hbb hn hla hlb
  go_enter Try.func9, Try.ntmps9
  go_upto_region 2 with (first | (go_at_call 11; (with_reducible refine (AwakeC.c awake_c _).mono ?_); rintro en wa ⟨rfl, hb_⟩; have n0_ := Aside0.mk (H.out.on hb_); clear H; have H := n0_; clear n0_; clear hb_))
  go_upto_region 3 with (first | ((with_reducible refine gate_dst (N := 20) rfl ?_); (try (refine gate_guard (by rfl) ?_; dsimp only)); refine ev_build (zeroC.setIfInBounds 15 (.slice A a.length ca)) rfl (by first | (go_simp; done) | (go_simp; rfl)) ?_; intro cy hcx_; have mx_ := (show IsMsg _ (zeroC.setIfInBounds 15 (.slice A a.length ca)) ({ zeroM with recs := a }) from (set_recs (zero_is _) (n := ca) Hca.out (fun o ho => Ga.out o ho) (H.out.f.1.2))); rw [← hcx_] at mx_; have n0_ := Aside0.mk ((H.out).add (sta_msg _ _) (mx_)); clear H; have H := n0_; clear n0_; clear hcx_ mx_) | (go_at_call 15; (with_reducible refine (few_n HFA.out (H.out.f.2)).mono ?_); rintro en wf ⟨rfl, hb_⟩; have n0_ := Aside0.mk (H.out.on hb_); clear H; have H := n0_; clear n0_; clear hb_))
  go_upto_region 4 with (first | ((with_reducible refine gate_dst (N := 23) rfl ?_); (try (refine gate_guard (by rfl) ?_; dsimp only)); refine ev_build (zeroC.setIfInBounds 15 (.slice B b.length cb)) rfl (by first | (go_simp; done) | (go_simp; rfl)) ?_; intro cz hcx_; have mx_ := (show IsMsg _ (zeroC.setIfInBounds 15 (.slice B b.length cb)) ({ zeroM with recs := b }) from (set_recs (zero_is _) (n := cb) Hcb.out (fun o ho => Gb.out o ho) (H.out.f.1.2))); rw [← hcx_] at mx_; have n0_ := Aside0.mk ((H.out).add (sta_msg _ _) (mx_)); clear H; have H := n0_; clear n0_; clear hcx_ mx_) | (go_at_call 15; (with_reducible refine (few_n HFB.out (H.out.f.2)).mono ?_); rintro en wg ⟨rfl, hb_⟩; have n0_ := Aside0.mk (H.out.on hb_); clear H; have H := n0_; clear n0_; clear hb_))
  go_upto_region 10 with (first | ((with_reducible refine gate_dst (N := 36) rfl ?_); (try (refine gate_guard (by rfl) ?_; dsimp only)); refine ev_build ((codeC 21).setIfInBounds 15 (.slice A a.length ca)) rfl (by first | (go_simp; done) | (go_simp; rfl)) ?_; intro cm hcx_; have mx_ := (show IsMsg _ ((codeC 21).setIfInBounds 15 (.slice A a.length ca)) (mkF 21 a) from (mkF_is (code := 21) (l := a) (by decide) (n := ca) Hca.out (fun o ho => Ga.out o ho) (H.out.f.1.1.1.2))); rw [← hcx_] at mx_; have n0_ := Aside0.mk ((H.out).add (sta_msg _ _) (mx_)); clear H; have H := n0_; clear n0_; clear hcx_ mx_) | (go_at_call 16; (with_reducible refine (WriteC.n HWA.out (n := nx) (by rw [List.length_cons, ENX.out]) H.out.f.2).mono ?_); rintro en wx ⟨Ax, cx, rfl, hz_, hr_, hb_⟩; have n0_ := Aside0.mk ((H.out.on hb_).add (sta_C _ _ _ _) (hr_)); clear H; have H := n0_; clear n0_; have Zx := Aside0.mk hz_; clear hb_ hr_ hz_))
  go_upto_region 11 with (first | ((with_reducible refine gate_dst (N := 43) rfl ?_); (try (refine gate_guard (by rfl) ?_; dsimp only)); refine ev_build ((codeC 21).setIfInBounds 15 (.slice B b.length cb)) rfl (by first | (go_simp; done) | (go_simp; rfl)) ?_; intro cn hcx_; have mx_ := (show IsMsg _ ((codeC 21).setIfInBounds 15 (.slice B b.length cb)) (mkF 21 b) from (mkF_is (code := 21) (l := b) (by decide) (n := cb) Hcb.out (fun o ho => Gb.out o ho) (H.out.f.1.1.1.1.2))); rw [← hcx_] at mx_; have n0_ := Aside0.mk ((H.out).add (sta_msg _ _) (mx_)); clear H; have H := n0_; clear n0_; clear hcx_ mx_) | (go_at_call 16; (with_reducible refine (WriteC.n HWB.out (n := ny) (by rw [List.length_cons, ENY.out]) H.out.f.2).mono ?_); rintro en wu ⟨Au, cu_, rfl, hz_, hr_, hb_⟩; have n0_ := Aside0.mk ((H.out.on hb_).add (sta_C _ _ _ _) (hr_)); clear H; have H := n0_; clear n0_; have Zu := Aside0.mk hz_; clear hb_ hr_ hz_))
  obtain ⟨ra, ka_, za_⟩ := raws_of (H.out.f.1.1.1.1.1.1.1.2)
  obtain ⟨rb, kb_, zb_⟩ := raws_of (H.out.f.1.1.1.1.1.1.2)
  have KA := Aside0.mk ka_
  have KB := Aside0.mk kb_
  have ZA := Aside0.mk za_
  have ZB := Aside0.mk zb_
  clear ka_ kb_ za_ zb_
  obtain ⟨nl, enl_⟩ : ∃ z, z = a.length + b.length := ⟨_, rfl⟩
  have ENL := Aside0.mk enl_
  clear enl_
  go_upto_region 14 with (first | ((with_reducible refine gate_dst (N := 74) rfl ?_); refine ev_none rfl rfl (by first | (go_simp; done) | (go_simp; rfl)) ?_; intro v1 w31 r_ b_; have R1 := Aside0.mk r_; have B1 := Aside0.mk b_; clear r_ b_) | ((with_reducible refine gate_dst (N := 76) rfl ?_); refine ev_rapp (.tmp 74) (.tmp 75) rfl rfl rfl rfl R1.out B1.out.size (Kd.C_below KA.out B1.out) (by have := EL1.out; simp; omega) ?_; intro v2 w32 r_ b_; have R2 := Aside0.mk r_; have B2 := Aside0.mk (B1.out.trans b_); clear r_ b_ R1 B1) | ((with_reducible refine gate_dst (N := 78) rfl ?_); refine ev_rapp2 (.tmp 76) (.tmp 77) rfl rfl rfl rfl R2.out B2.out.size (Kd.C_below KB.out B2.out) (by have := EL1.out; have := EL2.out; have := ZA.out.1; simp; omega) (m := nl) (by have := ZA.out.1; have := ZB.out.1; have := ENL.out; simp; omega) ?_; intro A3 n3 w33 r_ b_; have R3 := Aside0.mk r_; have B3 := Aside0.mk (B2.out.trans b_); clear r_ b_ R2 B2; have n0_ := Aside0.mk (H.out.on B3.out); clear H; have H := n0_; clear n0_) | ((with_reducible refine gate_dst (N := 79) rfl ?_); refine ev_build ((codeC 21).setIfInBounds 15 (.slice A3 nl n3)) rfl (by first | (go_simp; done) | (go_simp; rfl)) ?_; intro cq hcx_; have mx_ := join_is (by simpa using R3.out) (fits_below ZA.out B3.out) (fits_below ZB.out B3.out) Ga.out Gb.out; rw [← hcx_] at mx_; have n0_ := Aside0.mk ((H.out).add (sta_msg _ _) (mx_)); clear H; have H := n0_; clear n0_; clear hcx_ mx_) | (go_at_call 16; (with_reducible refine (WriteC.n HWC.out (n := nx + ny - 1) (by have := ENX.out; have := ENY.out; simp; omega) H.out.f.2).mono ?_); rintro en wq ⟨Aq, cq_, rfl, hz_, hr_, hb_⟩; have n0_ := Aside0.mk ((H.out.on hb_).add (sta_C _ _ _ _) (hr_)); clear H; have H := n0_; clear n0_; have Zq := Aside0.mk hz_; clear hb_ hr_ hz_))
  go_upto_region 17 with (fail)
  obtain ⟨i, hi1, hi2⟩ := u8_info
  have hnx_ := ENX.out
  have hny_ := ENY.out
  have cutAx := cut_from 22 5 .i64 Try.underlying22 hi1 1 hi2 Ax nx cx 1 (by decide) (by omega)
  obtain ⟨Ax1, hAx1⟩ : ∃ z, z = (if cx = (1 : Int).toNat then Ax else Ax.map (·.add ((1 : Int).toNat * 1))) := ⟨_, rfl⟩
  rw [← hAx1, show nx - (1 : Int).toNat = fa.length from by rw [show (1 : Int).toNat = 1 from rfl]; omega, show cx - (1 : Int).toNat = cx - 1 from rfl] at cutAx
  have RAx1 := Aside0.mk (show Kd.C (Kd.int .u8) wq.drew Ax1 fa.length fa from by have h_ := H.out.dr.f.1.1.1.1.2; have hz_ := Zx.out; rw [hnx_] at h_ hz_; rw [hAx1]; exact Kd.C_drop (xs := (fa.length : Int) :: fa) (m := 1) (c := cx) h_ (by simp) (by simpa using hz_))
  have nAx_1 : (1 : Int) ≤ (nx : Int) := by omega
  have zAx_1 : fa.length ≤ cx - 1 := by have := Zx.out; omega
  clear hAx1
  have cutAu := cut_from 22 5 .i64 Try.underlying22 hi1 1 hi2 Au ny cu_ 1 (by decide) (by omega)
  obtain ⟨Au1, hAu1⟩ : ∃ z, z = (if cu_ = (1 : Int).toNat then Au else Au.map (·.add ((1 : Int).toNat * 1))) := ⟨_, rfl⟩
  rw [← hAu1, show ny - (1 : Int).toNat = fb.length from by rw [show (1 : Int).toNat = 1 from rfl]; omega, show cu_ - (1 : Int).toNat = cu_ - 1 from rfl] at cutAu
  have RAu1 := Aside0.mk (show Kd.C (Kd.int .u8) wq.drew Au1 fb.length fb from by have h_ := H.out.dr.f.1.1.2; have hz_ := Zu.out; rw [hny_] at h_ hz_; rw [hAu1]; exact Kd.C_drop (xs := (fb.length : Int) :: fb) (m := 1) (c := cu_) h_ (by simp) (by simpa using hz_))
  have nAu_1 : (1 : Int) ≤ (ny : Int) := by omega
  have zAu_1 : fb.length ≤ cu_ - 1 := by have := Zu.out; omega
  clear hAu1
  have wu : IntKind.u8.wrap ((nx : Int) + (ny : Int) - 2) = (nn : Int) := by rw [IntKind.wrap_u8]; have := ENN.out; have := HN.out; omega
  have hlen_ := HN.out
  have LA := Aside0.mk (show fa.length ≤ 251 by omega)
  have LB := Aside0.mk (show fb.length ≤ 251 by omega)
  clear hnx_ hny_ hlen_
  have RQD := Aside0.mk (H.out.dr.f.2)
  have JB := Aside0.mk (join_bytes (nn := nn) HBA.out HBB.out (by have := ENN.out; have := HN.out; omega))
  have JL := Aside0.mk (show ((nn : Int) :: (fa ++ fb)).length = nx + ny - 1 from by have := ENX.out; have := ENY.out; simp; omega)
  have HB := Aside0.mk (Below.refl wq.drew.heap.size (wq.drew))
  refine start_ (n := 19) (S := fun w' => True) (ds := []) #[false, false, false, false, false, false, false, false, false, false, false, false, false, false, false, false, false, false, false] (by kernel_rfl) rfl rfl trivial (fun hHeld => ?_)
  refine with_tabW joins.tab17 joins.bits17 (fun HT_ HW_ => ?_)
  refine pure_ (i := 0) (N := some 96) (v := ?_) (a' := ?_) #[true, false, false, false, false, false, false, false, false, false, false, false, false, false, false, false, false, false, false] rfl rfl (any_of HT_.out (by kernel_rfl)) (fun _ _ _ h => h) (Or.inl ⟨by rfl, ?_⟩) ?_ ?_
  rotate_left
  · intro w'
    go_simp
    with_reducible rfl
  rotate_left
  · simp only [Act.put, List.setIfInBounds_toArray, List.set_cons_zero, List.set_cons_succ, i64_w, i32_w]
    rfl
  refine pure_ (i := 1) (N := some 97) (v := ?_) (a' := ?_) #[true, true, false, false, false, false, false, false, false, false, false, false, false, false, false, false, false, false, false] rfl rfl (any_of HT_.out (by kernel_rfl)) (fun _ _ _ h => h) (Or.inl ⟨by rfl, ?_⟩) ?_ ?_
  rotate_left
  · intro w'
    go_simp
    with_reducible rfl
  rotate_left
  · simp only [Act.put, List.setIfInBounds_toArray, List.set_cons_zero, List.set_cons_succ, i64_w, i32_w]
    rfl
  refine pure_ (i := 2) (N := some 98) (v := ?_) (a' := ?_) #[true, true, true, false, false, false, false, false, false, false, false, false, false, false, false, false, false, false, false] rfl rfl (any_of HT_.out (by kernel_rfl)) (fun _ _ _ h => h) (Or.inl ⟨by rfl, ?_⟩) ?_ ?_
  rotate_left
  · intro w'
    go_simp
    with_reducible rfl
  rotate_left
  · simp only [Act.put, List.setIfInBounds_toArray, List.set_cons_zero, List.set_cons_succ, i64_w, i32_w]
    rfl
  refine pure_ (i := 3) (N := some 99) (v := ?_) (a' := ?_) #[true, true, true, true, false, false, false, false, false, false, false, false, false, false, false, false, false, false, false] rfl rfl (any_of HT_.out (by kernel_rfl)) (fun _ _ _ h => h) (Or.inl ⟨by rfl, ?_⟩) ?_ ?_
  rotate_left
  · intro w'
    go_simp
    with_reducible rfl
  rotate_left
  · simp only [Act.put, List.setIfInBounds_toArray, List.set_cons_zero, List.set_cons_succ, i64_w, i32_w]
    rfl
  refine pure_ (i := 4) (N := some 100) (v := ?_) (a' := ?_) #[true, true, true, true, true, false, false, false, false, false, false, false, false, false, false, false, false, false, false] rfl rfl (any_of HT_.out (by kernel_rfl)) (fun _ _ _ h => h) (Or.inl ⟨by rfl, ?_⟩) ?_ ?_
  rotate_left
  · intro w'
    go_simp
    with_reducible rfl
  rotate_left
  · simp only [Act.put, List.setIfInBounds_toArray, List.set_cons_zero, List.set_cons_succ, i64_w, i32_w]
    rfl
  refine pure_ (i := 5) (N := some 101) (v := ?_) (a' := ?_) #[true, true, true, true, true, true, false, false, false, false, false, false, false, false, false, false, false, false, false] rfl rfl (any_of HT_.out (by kernel_rfl)) (fun _ _ _ h => h) (Or.inl ⟨by rfl, ?_⟩) ?_ ?_
  rotate_left
  · intro w'
    go_simp
    with_reducible rfl
  rotate_left
  · simp only [Act.put, List.setIfInBounds_toArray, List.set_cons_zero, List.set_cons_succ, i64_w, i32_w]
    rfl
  refine pure_ (i := 6) (N := some 102) (v := ?_) (a' := ?_) #[true, true, true, true, true, true, true, false, false, false, false, false, false, false, false, false, false, false, false] rfl rfl (any_of HT_.out (by kernel_rfl)) (fun _ _ _ h => h) (Or.inl ⟨by rfl, ?_⟩) ?_ ?_
  rotate_left
  · intro w'
    go_simp
    with_reducible rfl
  rotate_left
  · simp only [Act.put, List.setIfInBounds_toArray, List.set_cons_zero, List.set_cons_succ, i64_w, i32_w]
    rfl
  refine pure_ (i := 7) (N := some 103) (v := ?_) (a' := ?_) #[true, true, true, true, true, true, true, true, false, false, false, false, false, false, false, false, false, false, false] rfl rfl (any_of HT_.out (by kernel_rfl)) (fun _ _ _ h => h) (Or.inl ⟨by rfl, ?_⟩) ?_ ?_
  rotate_left
  · intro w'
    go_simp
    with_reducible rfl
  rotate_left
  · simp only [Act.put, List.setIfInBounds_toArray, List.set_cons_zero, List.set_cons_succ, i64_w, i32_w]
    rfl
  refine pure_ (i := 8) (N := some 104) (v := ?_) (a' := ?_) #[true, true, true, true, true, true, true, true, true, false, false, false, false, false, false, false, false, false, false] rfl rfl (any_of HT_.out (by kernel_rfl)) (fun _ _ _ h => h) (Or.inl ⟨by rfl, ?_⟩) ?_ ?_
  rotate_left
  · intro w'
    go_simp
    with_reducible rfl
  rotate_left
  · simp only [Act.put, List.setIfInBounds_toArray, List.set_cons_zero, List.set_cons_succ, i64_w, i32_w]
    rfl
  refine pure_ (i := 10) (N := some 106) (v := ?_) (a' := ?_) #[true, true, true, true, true, true, true, true, true, false, true, false, false, false, false, false, false, false, false] rfl rfl (any_of HT_.out (by kernel_rfl)) (fun _ _ _ h => h) (Or.inl ⟨by rfl, ?_⟩) ?_ ?_
  rotate_left
  · intro w'
    go_simp
    with_reducible rfl
  rotate_left
  · simp only [Act.put, List.setIfInBounds_toArray, List.set_cons_zero, List.set_cons_succ, i64_w, i32_w]
    rfl
  refine pure_ (i := 11) (N := some 107) (v := ?_) (a' := ?_) #[true, true, true, true, true, true, true, true, true, false, true, true, false, false, false, false, false, false, false] rfl rfl (any_of HT_.out (by kernel_rfl)) (fun _ _ _ h => h) (Or.inl ⟨by rfl, ?_⟩) ?_ ?_
  rotate_left
  · intro w'
    go_simp
    with_reducible rfl
  rotate_left
  · simp only [Act.put, List.setIfInBounds_toArray, List.set_cons_zero, List.set_cons_succ, i64_w, i32_w]
    rfl
  refine pure_ (i := 13) (N := some 109) (v := ?_) (a' := ?_) #[true, true, true, true, true, true, true, true, true, false, true, true, false, true, false, false, false, false, false] rfl rfl (any_of HT_.out (by kernel_rfl)) (fun _ _ _ h => h) (Or.inl ⟨by rfl, ?_⟩) ?_ ?_
  rotate_left
  · intro w'
    go_simp
    with_reducible rfl
  rotate_left
  · simp only [Act.put, List.setIfInBounds_toArray, List.set_cons_zero, List.set_cons_succ, i64_w, i32_w]
    rfl
  refine pure_ (i := 14) (N := some 110) (v := ?_) (a' := ?_) #[true, true, true, true, true, true, true, true, true, false, true, true, false, true, true, false, false, false, false] rfl rfl (any_of HT_.out (by kernel_rfl)) (fun _ _ _ h => h) (Or.inl ⟨by rfl, ?_⟩) ?_ ?_
  rotate_left
  · intro w'
    go_simp
    with_reducible rfl
  rotate_left
  · simp only [Act.put, List.setIfInBounds_toArray, List.set_cons_zero, List.set_cons_succ, i64_w, i32_w]
    rfl
  refine inv_at [9, 12, 15, 16, 17, 18] (fun a0_ b a w' => ∃ (v9 : Value) (v12 : Value) (v15 : Value), a = putSel a0_ b [(9, 105, v9), (12, 108, v12), (15, 111, v15), (16, 112, .bool true), (17, 113, .bool true), (18, 6, .bool true)] ∧ (Below wq.drew.heap.size wq.drew w') ∧ (b 9 = true → b 12 = false → Kd.R (Kd.int .u8) 5 w' wq.drew.heap.size (fun _ => True) v9 ([(nn : Int)])) ∧ (b 12 = true → b 15 = false → Kd.R (Kd.int .u8) 5 w' wq.drew.heap.size (fun _ => True) v12 ([(nn : Int)] ++ fa)) ∧ (b 15 = true → b 16 = false → Kd.R (Kd.int .u8) 5 w' wq.drew.heap.size (fun _ => True) v15 (([(nn : Int)] ++ fa) ++ fb))) HT_.out HW_.out (by kernel_rfl) (by kernel_rfl) ?_ ?_ ?_
  · exact ⟨.bool false, .bool false, .bool false, by simp only [putSel, Bool.false_eq_true, if_false], HB.out, fun h_ => absurd h_ (by decide), fun h_ => absurd h_ (by decide), fun h_ => absurd h_ (by decide)⟩
  · skip
    clear HB
    refine steps_cons ?_ ?_
    · rintro b a w' ⟨v9, v12, v15, ha, Q_HB, Q_R9, Q_R12, Q_R15⟩ hb_ hon hoff
      refine ⟨_, rfl, fun K hK => ?_⟩
      have e104 : a.tmps[104]? = some (.int .u8 (nn : Int)) := by rw [ha]; exact (putSel_off rfl).trans rfl
      have e101 : a.tmps[101]? = some (.bool true) := by rw [ha]; exact (putSel_off rfl).trans rfl
      replace ha := Aside0.mk ha
      have HB := Aside0.mk Q_HB
      refine Kd.R_lit_step (Kd.int .u8) (w0 := wq.drew) wq.drew.heap.size 5 (wanted_on rfl rfl rfl (e101.trans (by first | rfl | (simp [*]; done)))) (N := 105) rfl (xs := [(nn : Int)]) (inner := [.int .u8 ((nn : Int))]) (ok := fun _ => True) (okp := fun _ => True) ?hr (Reps.one (show Kd.M (Kd.int .u8) _ _ _ ((nn : Int)) [.int .u8 ((nn : Int))] from rfl) (Reps.none _ _)) (fun _ hk => hk) trivial HB.out HB.out.size (by simp) ?_
      case hr => first | (go_simp; done) | (go_simp; rfl)
      intro nv_ w2 hR_ hB_ hg_ hn_
      have z_R12 := fun (h0_ : b 12 = true) (h1_ : b 15 = false) => (show Kd.R (Kd.int .u8) 5 w2 wq.drew.heap.size (fun _ => True) v12 ([(nn : Int)] ++ fa) from Kd.R_grown (Q_R12 h0_ h1_) hg_ (fun _ _ => by simp))
      have z_R15 := fun (h0_ : b 15 = true) (h1_ : b 16 = false) => (show Kd.R (Kd.int .u8) 5 w2 wq.drew.heap.size (fun _ => True) v15 (([(nn : Int)] ++ fa) ++ fb) from Kd.R_grown (Q_R15 h0_ h1_) hg_ (fun _ _ => by simp))
      refine hK.out _ _ ⟨nv_, v12, v15, (by rw [ha.out]; exact putSel_upk 0 hb_ rfl rfl rfl), hB_, fun _ _ => hR_, fun h0_ _ => absurd ((hoff 12 (by kernel_rfl)).symm.trans h0_) (by decide), fun h0_ _ => absurd ((hoff 15 (by kernel_rfl)).symm.trans h0_) (by decide)⟩
    refine steps_cons ?_ ?_
    · rintro b a w' ⟨v9, v12, v15, ha, Q_HB, Q_R9, Q_R12, Q_R15⟩ hb_ hon hoff
      refine ⟨_, rfl, fun K hK => ?_⟩
      have e105 : a.tmps[105]? = some (v9) := by rw [ha]; exact putSel_on (e := (9, 105, v9)) 0 rfl rfl (hon 9 (by kernel_rfl)) rfl
      have e107 : a.tmps[107]? = some (.slice Ax1 fa.length (cx - 1)) := by rw [ha]; exact (putSel_off rfl).trans rfl
      have e101 : a.tmps[101]? = some (.bool true) := by rw [ha]; exact (putSel_off rfl).trans rfl
      replace ha := Aside0.mk ha
      have HB := Aside0.mk Q_HB
      have R9 := Aside0.mk (Q_R9 (hon 9 (by kernel_rfl)) hb_)
      have HX_ : a.eval (.tmp 107) = .slice Ax1 fa.length (cx - 1) := (by simp only [Act.eval, Array.getD_eq_getD_getElem?, Option.getD_some, e107])
      refine Kd.R_append_rows_step (Kd.int .u8) (w0 := wq.drew) wq.drew.heap.size (wanted_on rfl rfl rfl (e101.trans (by first | rfl | (simp [*]; done)))) (.tmp 105) (.tmp 107) 22 5 (.int .u8 0) 1 rfl Try.underlying22 (by kernel_rfl) rfl (by decide) (by decide) v9 ([(nn : Int)]) (fa) Ax1 (fa.length) (cx - 1) (fun _ => True) (fun _ => False) (by simp only [Act.eval, Array.getD_eq_getD_getElem?, Option.getD_some, e105]) HX_ R9.out (Kd.C_below RAx1.out HB.out) (fun _ _ h => h) (fun _ h => h.elim) (fun _ _ => trivial) HB.out HB.out.size (by have := LA.out; simp only [List.length_cons, List.length_nil]; omega) ?_
      intro nv_ w2 hR_ hB_ hg_ hat_
      refine hK.out _ _ ⟨v9, nv_, v15, (by rw [ha.out]; exact putSel_upk 1 hb_ rfl rfl rfl), hB_, fun _ h1_ => absurd ((up_self b 12).symm.trans h1_) (by decide), fun _ _ => hR_, fun h0_ _ => absurd ((hoff 15 (by kernel_rfl)).symm.trans h0_) (by decide)⟩
    refine steps_cons ?_ ?_
    · rintro b a w' ⟨v9, v12, v15, ha, Q_HB, Q_R9, Q_R12, Q_R15⟩ hb_ hon hoff
      refine ⟨_, rfl, fun K hK => ?_⟩
      have e108 : a.tmps[108]? = some (v12) := by rw [ha]; exact putSel_on (e := (12, 108, v12)) 1 rfl rfl (hon 12 (by kernel_rfl)) rfl
      have e110 : a.tmps[110]? = some (.slice Au1 fb.length (cu_ - 1)) := by rw [ha]; exact (putSel_off rfl).trans rfl
      have e101 : a.tmps[101]? = some (.bool true) := by rw [ha]; exact (putSel_off rfl).trans rfl
      replace ha := Aside0.mk ha
      have HB := Aside0.mk Q_HB
      have R12 := Aside0.mk (Q_R12 (hon 12 (by kernel_rfl)) hb_)
      have HX_ : a.eval (.tmp 110) = .slice Au1 fb.length (cu_ - 1) := (by simp only [Act.eval, Array.getD_eq_getD_getElem?, Option.getD_some, e110])
      refine Kd.R_append_rows_step (Kd.int .u8) (w0 := wq.drew) wq.drew.heap.size (wanted_on rfl rfl rfl (e101.trans (by first | rfl | (simp [*]; done)))) (.tmp 108) (.tmp 110) 22 5 (.int .u8 0) 1 rfl Try.underlying22 (by kernel_rfl) rfl (by decide) (by decide) v12 ([(nn : Int)] ++ fa) (fb) Au1 (fb.length) (cu_ - 1) (fun _ => True) (fun _ => False) (by simp only [Act.eval, Array.getD_eq_getD_getElem?, Option.getD_some, e108]) HX_ R12.out (Kd.C_below RAu1.out HB.out) (fun _ _ h => h) (fun _ h => h.elim) (fun _ _ => trivial) HB.out HB.out.size (by have := LA.out; have := LB.out; simp only [List.length_append, List.length_cons, List.length_nil]; omega) ?_
      intro nv_ w2 hR_ hB_ hg_ hat_
      refine hK.out _ _ ⟨v9, v12, nv_, (by rw [ha.out]; exact putSel_upk 2 hb_ rfl rfl rfl), hB_, fun _ h1_ => absurd ((hon 12 (by kernel_rfl)).symm.trans h1_) (by decide), fun _ h1_ => absurd ((up_self b 15).symm.trans h1_) (by decide), fun _ _ => hR_⟩
    refine steps_cons ?_ ?_
    · rintro b a w' ⟨v9, v12, v15, ha, Q_HB, Q_R9, Q_R12, Q_R15⟩ hb_ hon hoff
      refine ⟨_, rfl, fun K hK => ?_⟩
      have e102 : a.tmps[102]? = some (.slice Aq (nx + ny - 1) cq_) := by rw [ha]; exact (putSel_off rfl).trans rfl
      have e111 : a.tmps[111]? = some (v15) := by rw [ha]; exact putSel_on (e := (15, 111, v15)) 2 rfl rfl (hon 15 (by kernel_rfl)) rfl
      have e101 : a.tmps[101]? = some (.bool true) := by rw [ha]; exact (putSel_off rfl).trans rfl
      replace ha := Aside0.mk ha
      have HB := Aside0.mk Q_HB
      have R15 := Aside0.mk (Q_R15 (hon 15 (by kernel_rfl)) hb_)
      obtain ⟨A_, c_, ev_, hc_, hr_⟩ := Kd.R_reads R15.out
      rw [ev_] at e111
      refine goes_ Try.func18 (by kernel_rfl) rfl #[.slice Aq (nx + ny - 1) cq_, .slice A_ (([(nn : Int)] ++ fa) ++ fb).length c_] (wanted_on rfl rfl rfl (e101.trans (by first | rfl | (simp [*]; done)))) rfl rfl (by first | (simp only [List.map_toArray, List.map_cons, List.map_nil, Act.eval, Array.getD_eq_getD_getElem?, Option.getD_some, e102, e111, e101]; done) | (simp only [List.map_toArray, List.map_cons, List.map_nil, Act.eval, Array.getD_eq_getD_getElem?, Option.getD_some, e102, e111, e101]; rfl)) ?_
      with_reducible refine (same_e (xs := (nn : Int) :: (fa ++ fb)) (ys := ([(nn : Int)] ++ fa) ++ fb) JB.out (by simp) JL.out rfl (Kd.C_below RQD.out HB.out) Zq.out hr_ hc_).mono ?_
      rintro en w2 ⟨rfl, hB_⟩
      refine ⟨_, rfl, ?_⟩
      have z_R9 := fun (h0_ : b 9 = true) (h1_ : b 12 = false) => (show Kd.R (Kd.int .u8) 5 w2 wq.drew.heap.size (fun _ => True) v9 ([(nn : Int)]) from Kd.R_below (Q_R9 h0_ h1_) hB_)
      have z_R12 := fun (h0_ : b 12 = true) (h1_ : b 15 = false) => (show Kd.R (Kd.int .u8) 5 w2 wq.drew.heap.size (fun _ => True) v12 ([(nn : Int)] ++ fa) from Kd.R_below (Q_R12 h0_ h1_) hB_)
      refine hK.out _ _ ⟨v9, v12, v15, (by rw [ha.out]; exact putSel_upk 3 hb_ rfl rfl rfl), HB.out.trans (hB_.mono HB.out.size), fun _ h1_ => absurd ((hon 12 (by kernel_rfl)).symm.trans h1_) (by decide), fun _ h1_ => absurd ((hon 15 (by kernel_rfl)).symm.trans h1_) (by decide), fun _ h1_ => absurd ((up_self b 16).symm.trans h1_) (by decide)⟩
    refine steps_cons ?_ ?_
    · rintro b a w' ⟨v9, v12, v15, ha, Q_HB, Q_R9, Q_R12, Q_R15⟩ hb_ hon hoff
      refine ⟨_, rfl, fun K hK => ?_⟩
      have e101 : a.tmps[101]? = some (.bool true) := by rw [ha]; exact (putSel_off rfl).trans rfl
      have e112 : a.tmps[112]? = some (.bool true) := by rw [ha]; exact putSel_on (e := (16, 112, .bool true)) 3 rfl rfl (hon 16 (by kernel_rfl)) rfl
      replace ha := Aside0.mk ha
      have HB := Aside0.mk Q_HB
      refine value_ (w1 := w') (v := .bool true) (by rfl) rfl ?_ ?_
      · go_simp
        (try simp only [i64_w])
        try rfl
      refine hK.out _ _ ⟨v9, v12, v15, (by rw [ha.out]; exact putSel_upk 4 hb_ rfl rfl rfl), Q_HB, fun _ h1_ => absurd ((hon 12 (by kernel_rfl)).symm.trans h1_) (by decide), fun _ h1_ => absurd ((hon 15 (by kernel_rfl)).symm.trans h1_) (by decide), fun _ h1_ => absurd ((hon 16 (by kernel_rfl)).symm.trans h1_) (by decide)⟩
    refine steps_cons ?_ ?_
    · rintro b a w' ⟨v9, v12, v15, ha, Q_HB, Q_R9, Q_R12, Q_R15⟩ hb_ hon hoff
      refine ⟨_, rfl, fun K hK => ?_⟩
      have e113 : a.tmps[113]? = some (.bool true) := by rw [ha]; exact putSel_on (e := (17, 113, .bool true)) 4 rfl rfl (hon 17 (by kernel_rfl)) rfl
      replace ha := Aside0.mk ha
      have HB := Aside0.mk Q_HB
      refine value_ (w1 := w') (v := .bool true) (by rfl) rfl ?_ ?_
      · go_simp
        (try simp only [i64_w])
        try rfl
      refine hK.out _ _ ⟨v9, v12, v15, (by rw [ha.out]; exact putSel_upk 5 hb_ rfl rfl rfl), Q_HB, fun _ h1_ => absurd ((hon 12 (by kernel_rfl)).symm.trans h1_) (by decide), fun _ h1_ => absurd ((hon 15 (by kernel_rfl)).symm.trans h1_) (by decide), fun _ h1_ => absurd ((hon 16 (by kernel_rfl)).symm.trans h1_) (by decide)⟩
    exact steps_nil
  rintro b a w17 hall ⟨v9, v12, v15, ha, Q_HB, Q_R9, Q_R12, Q_R15⟩
  clear HB
  have hb9_ := hall 9 (by kernel_rfl)
  have hb12_ := hall 12 (by kernel_rfl)
  have hb15_ := hall 15 (by kernel_rfl)
  have hb16_ := hall 16 (by kernel_rfl)
  have hb17_ := hall 17 (by kernel_rfl)
  have hb18_ := hall 18 (by kernel_rfl)
  subst ha
  simp only [putSel, hb9_, hb12_, hb15_, hb16_, hb17_, hb18_, if_true, Act.put, List.setIfInBounds_toArray, List.set_cons_zero, List.set_cons_succ]
  have HB := Aside0.mk Q_HB
  clear Q_HB
  clear Q_R9
  clear Q_R12
  clear Q_R15
  clear hall hb9_ hb12_ hb15_ hb16_ hb17_ hb18_
  have n0_ := Aside0.mk ((H.out.dr).on HB.out)
  clear H HB
  have H := n0_
  clear n0_
  go_wp2
  go_ret
  exact ⟨by first | rfl | (simp; done), H.out.b⟩
theorem joins_go {dir : Int} (hd : dir = 0 ∨ dir = 1) {a b : List S43} (ga : ∀ x ∈ a, goodRec x) (gb : ∀ x ∈ b, goodRec x) (hfa : fewB (mkF 21 a) = true) (hfb : fewB (mkF 21 b) = true) {R : List Int × Int} (h : write dir (mkF 21 (a ++ b)) = R) (hl : (flat false a).length ≤ 251) (hl2 : (flat false b).length ≤ 251) : WriteC 16 dir (mkF 21 (a ++ b)) R := by
  have e : lay dir (mkF 21 (a ++ b)) = ((flat false (a ++ b)).length : Int) % 256 :: flat false (a ++ b) := rfl
  have h1 := few_len hfa
  have h2 := few_len hfb
  refine mk_c ?_ ?_ h
  · rw [e, List.length_cons, flat_append, List.length_append]; omega
  · show (a ++ b).length ≤ 900000
    rw [List.length_append]; omega
theorem busbarlaw11_FilesJoins (response : Bool) (A : Option Addr) (ca : Nat) (a : List S43) (B : Option Addr) (cb : Nat) (b : List S43) (w : World) (hra : Kd.C k43 w A a.length a) (hca : a.length ≤ ca) (hrb : Kd.C k43 w B b.length b) (hcb : b.length ≤ cb) (hma : a.length ≤ maxLen) (hwa : ∀ x ∈ a, (Lit.int .u16 x.f0).wf = true ∧ (Lit.int .u16 x.f1).wf = true ∧ (Lit.int .u16 x.f2).wf = true ∧ x.f3.length ≤ maxLen ∧ ∀ y ∈ x.f3, (Lit.int .u16 y).wf = true) (hmb : b.length ≤ maxLen) (hwb : ∀ x ∈ b, (Lit.int .u16 x.f0).wf = true ∧ (Lit.int .u16 x.f1).wf = true ∧ (Lit.int .u16 x.f2).wf = true ∧ x.f3.length ≤ maxLen ∧ ∀ y ∈ x.f3, (Lit.int .u16 y).wf = true) :
    Calls Try.prog 9 #[.bool response, .slice A a.length ca, .slice B b.length cb] w fun en w' => en = .returned (.bool true) ∧ Below w.heap.size w w' := by
  have ga : ∀ x ∈ a, goodRec x := fun x hx => ⟨u16_wf (hwa x hx).1, u16_wf (hwa x hx).2.1, u16_wf (hwa x hx).2.2.1, fun y hy => u16_wf ((hwa x hx).2.2.2.2 y hy)⟩
  have gb : ∀ x ∈ b, goodRec x := fun x hx => ⟨u16_wf (hwb x hx).1, u16_wf (hwb x hx).2.1, u16_wf (hwb x hx).2.2.1, fun y hy => u16_wf ((hwb x hx).2.2.2.2 y hy)⟩
  cases hfa : fewB (mkF 21 a) with
  | false => exact Joins_na hra hca hrb hcb ga gb hfa rfl
  | true =>
  cases hfb : fewB (mkF 21 b) with
  | false => exact Joins_nb hra hca hrb hcb ga gb hfa hfb
  | true =>
  have hp : ∀ {l : List S43}, wantB l l.length = true → 1 ≤ (flat false l).length := fun {l} h => by
    have h2 := flat_pos ((want_all l).1 h).1 ((want_all l).1 h).2
    omega
  cases response with
  | false =>
    rcases join_write (dir := 0) (.inl rfl) ga with ⟨wa, la, ea⟩ | ⟨_, ea⟩
    · rcases join_write (dir := 0) (.inl rfl) gb with ⟨wb, lb, eb⟩ | ⟨_, eb⟩
      · have all := join_all (dir := 0) (.inl rfl) ga gb wa wb
        by_cases hn : (flat false a).length + (flat false b).length ≤ 251
        · rw [if_pos hn] at all
          exact Joins_ok0 hra hca hrb hcb ga gb hfa hfb ea eb (flat_bytes _ _) (flat_bytes _ _) la lb rfl hn (hp wa) (hp wb) (joins_go (.inl rfl) ga gb hfa hfb all la lb)
        · rw [if_neg hn] at all
          exact Joins_long0 hra hca hrb hcb ga gb hfa hfb ea eb (flat_bytes _ _) (flat_bytes _ _) la lb rfl hn (hp wa) (hp wb) (joins_go (.inl rfl) ga gb hfa hfb all la lb)
      · exact Joins_eb0 hra hca hrb hcb ga gb hfa hfb ea eb
    · exact Joins_ea0 hra hca hrb hcb ga gb hfa hfb ea
  | true =>
    rcases join_write (dir := 1) (.inr rfl) ga with ⟨wa, la, ea⟩ | ⟨_, ea⟩
    · rcases join_write (dir := 1) (.inr rfl) gb with ⟨wb, lb, eb⟩ | ⟨_, eb⟩
      · have all := join_all (dir := 1) (.inr rfl) ga gb wa wb
        by_cases hn : (flat false a).length + (flat false b).length ≤ 251
        · rw [if_pos hn] at all
          exact Joins_ok1 hra hca hrb hcb ga gb hfa hfb ea eb (flat_bytes _ _) (flat_bytes _ _) la lb rfl hn (hp wa) (hp wb) (joins_go (.inr rfl) ga gb hfa hfb all la lb)
        · rw [if_neg hn] at all
          exact Joins_long1 hra hca hrb hcb ga gb hfa hfb ea eb (flat_bytes _ _) (flat_bytes _ _) la lb rfl hn (hp wa) (hp wb) (joins_go (.inr rfl) ga gb hfa hfb all la lb)
      · exact Joins_eb1 hra hca hrb hcb ga gb hfa hfb ea eb
    · exact Joins_ea1 hra hca hrb hcb ga gb hfa hfb ea
end Go.Proofs.Ytdjeekpgcjcffaa.Laws
end
