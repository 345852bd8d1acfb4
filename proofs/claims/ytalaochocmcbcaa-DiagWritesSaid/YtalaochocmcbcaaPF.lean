/- What the laws of this chapter rest on, part 6: what the functions that they reach answer, each shown once. Conditions: what each theorem states. (Merged by a program of this session, wip/tools/merge.py, out of its own texts and of the words that the kit's print wrote for this seat, cut to those that are used.) -/
import Derived.Deep.Slices
import Derived.Deep.Fields
import Derived.ChangeArms
import Derived.Test.YtalaochocmcbcaaPE
set_option linter.unusedVariables false
set_option linter.unusedSimpArgs false
set_option maxHeartbeats 16000000
set_option maxRecDepth 100000
section
namespace Go.Proofs.Ytalaochocmcbcaa.Diag
open Go.RowKit Go.Proofs.Ytalaochocmcbcaa.P Go.Proofs.Ytalaochocmcbcaa.E Go.Proofs.Ytalaochocmcbcaa.Same Go.Proofs.Ytalaochocmcbcaa.Put Go.Proofs.Ytalaochocmcbcaa.Com Go.Proofs.YtalaochocmcbcaaW.PrintWords Go.Proofs.YtalaochocmcbcaaW.PrintLast Go.Proofs.YtalaochocmcbcaaW.PrintMore
def counted (l : List Int) : List Int := ((l.length : Int) % 256) :: l
def logged (s e g : Int) (l : List Int) : List Int := (((l.length : Int) + 6) % 256) :: (putL [s, e, g] ++ l)
def lay (dir : Int) (m : Msg) : List Int :=
  if m.code = 8 then putL (m.sub :: m.words) else if dir = 0 then [] else if m.code = 7 then [m.value % 256] else if m.code = 11 then putL [m.status, m.events] else if m.code = 12 then logged m.status m.events m.messages m.data else counted m.data
theorem is16_1 {a : Int} (ha : 0 ≤ a ∧ a < 65536) : is16 [a] := fun x hx => by
  rw [List.mem_singleton.1 hx]; exact ha
theorem is16_3 {a b c : Int} (ha : 0 ≤ a ∧ a < 65536) (hb : 0 ≤ b ∧ b < 65536) (hc : 0 ≤ c ∧ c < 65536) : is16 [a, b, c] := fun x hx => by
  simp only [List.mem_cons, List.not_mem_nil, or_false] at hx
  rcases hx with rfl | rfl | rfl <;> assumption
theorem is16_cons {a : Int} {l : List Int} (ha : 0 ≤ a ∧ a < 65536) (h : is16 l) : is16 (a :: l) := fun x hx => by
  rcases List.mem_cons.1 hx with rfl | hx
  · exact ha
  · exact h x hx
theorem len8 (s : Int) (l : List Int) : (putL (s :: l)).length = (putL [s]).length + (putL l).length := by
  rw [putL_length, putL_length, putL_length]
  simp only [List.length_cons, List.length_nil]
  omega
theorem put_r {ws : List Int} {n : Nat} (hn : ws.length = n) (h : is16 ws) (hl : ws.length ≤ 1000000) {A : Option Addr} {c : Nat} {w : World} (hr : Kd.C (Kd.int .u16) w A n ws) (hc : n ≤ c) : Calls Try.prog 49 #[.slice A n c] w fun en w' => ∃ v, en = .returned v ∧ Kd.R (Kd.int .u8) 5 w' w.heap.size (fun _ => True) v (putL ws) ∧ Below w.heap.size w w' := by
  subst hn
  obtain ⟨k, hk⟩ := (put_ev ws h hl).rounds
  exact word_Put.calls k A c ws _ w hr hc hk
theorem rput_r {ws : List Int} {n : Nat} (hn : ws.length = n) (h : is16 ws) (hl : ws.length ≤ 1000000) {A : Option Addr} {c : Nat} {w : World} (hr : Kd.C (Kd.int .u16) w A n ws) (hc : n ≤ c) : Calls Try.prog 57 #[.slice A n c] w fun en w' => ∃ v, en = .returned v ∧ Kd.R (Kd.int .u8) 5 w' w.heap.size (fun _ => True) v (putL ws) ∧ Below w.heap.size w w' := by
  subst hn
  obtain ⟨k, hk⟩ := (rput_ev ws h hl).rounds
  exact busbarref04_Put.calls k A c ws _ w hr hc hk
theorem put_b {ws : List Int} {n : Nat} (hn : ws.length = n) (h : is16 ws) (hl : ws.length ≤ 1000000) {A : Option Addr} {c : Nat} {w : World} (hr : Kd.C (Kd.int .u16) w A n ws) (hc : n ≤ c) : Calls Try.prog 49 #[.slice A n c] w fun en w' => ∃ A c, en = .returned (.slice A (putL ws).length c) ∧ (putL ws).length ≤ c ∧ Kd.C (Kd.int .u8) w' A (putL ws).length (putL ws) ∧ Below w.heap.size w w' := by
  refine (put_r hn h hl hr hc).mono ?_
  rintro en w' ⟨v, rfl, R, B⟩
  obtain ⟨A, c, rfl, hz, hr⟩ := Kd.R_reads R
  exact ⟨A, c, rfl, hz, hr, B⟩
theorem rput_b {ws : List Int} {n : Nat} (hn : ws.length = n) (h : is16 ws) (hl : ws.length ≤ 1000000) {A : Option Addr} {c : Nat} {w : World} (hr : Kd.C (Kd.int .u16) w A n ws) (hc : n ≤ c) : Calls Try.prog 57 #[.slice A n c] w fun en w' => ∃ A c, en = .returned (.slice A (putL ws).length c) ∧ (putL ws).length ≤ c ∧ Kd.C (Kd.int .u8) w' A (putL ws).length (putL ws) ∧ Below w.heap.size w w' := by
  refine (rput_r hn h hl hr hc).mono ?_
  rintro en w' ⟨v, rfl, R, B⟩
  obtain ⟨A, c, rfl, hz, hr⟩ := Kd.R_reads R
  exact ⟨A, c, rfl, hz, hr, B⟩
def lay.T2 : Bool × List (List Nat × List Nat) := (true, [([], []), ([0], [0]), ([1], [1]), ([2], [2]), ([], []), ([4], [4]), ([5, 3], [5]), ([3, 6, 6], [3, 6]), ([7, 7, 0, 1, 2, 3, 4, 5, 6, 7], [7])])
def lay.B2 : List Nat := [0, 1, 3, 7, 0, 16, 63, 127, 255]
theorem lay.tab2 : rtab .any (opsOf Try.f35 2) = lay.T2 := by kernel_rfl
theorem lay.bits2 : waitsOk lay.T2.2 lay.B2 = true := by kernel_rfl
theorem lay_8 {dir : Int} {m : Msg} {cx : Array Value} {w : World} (hm : IsMsg w cx m) (hdl : m.data.length ≤ 900000) (hw : m.words.length ≤ 900000) (hk : m.code = 8) :
    Calls Try.prog 35 #[.int .i64 dir, .agg cx] w fun en w' => ∃ A c, en = .returned (.slice A (lay dir m).length c) ∧ (lay dir m).length ≤ c ∧ Kd.C (Kd.int .u8) w' A (lay dir m).length (lay dir m) ∧ Below w.heap.size w w' := by
  obtain ⟨⟨a0, a1, a2, a3, a4, a5, a6, a7, a8, a9, a10, a11, _⟩, adt, _⟩ := goodM_num hm.good
  have hws : is16 m.words := hm.good.2.1
  have H := Aside0.mk (Hd.start w)
  have hsz := hm.size
  have hix := msg_info hsz
  have n0_ := Aside0.mk ((((H.out.on (below_alloc (Below.refl _ _) (Obj.cells cx 30)))).add (sta_blk _ _) (blk_new _ _)).add (sta_msg _ _) (hm.on (below_alloc (Below.refl _ _) _)))
  clear H
  have H := n0_
  clear n0_
  have b8 : (m.code == 8) = true := beq_iff_eq.2 hk
  have b7 : (m.code == 7) = false := beq_eq_false_iff_ne.2 (by omega)
  have b11 : (m.code == 11) = false := beq_eq_false_iff_ne.2 (by omega)
  have b12 : (m.code == 12) = false := beq_eq_false_iff_ne.2 (by omega)
  have kcode := bx_code H.out.f.1.2 H.out.f.2
  rw [show lay dir m = putL (m.sub :: m.words) from by unfold lay; rw [if_pos hk]]
  obtain ⟨A12, c12, A13, c13, A14, c14, A15, c15, A21, c21, ⟨l12, _, l14, _, _⟩, ⟨r12, q12⟩, _, ⟨r14, q14⟩, _, _⟩ := IsMsg.lists H.out.f.2
  have ksub := bx_sub H.out.f.1.2 H.out.f.2
  have kw := (blk_cell H.out.f.1.2 12).trans l12
  have RW_ := Aside0.mk r12
  have QW := Aside0.mk q12
  clear l12 r12 q12 l14 r14 q14
  have HA := Aside0.mk (And.intro a4 (And.intro a8 (And.intro a9 (And.intro a10 a11))))
  have HWS := Aside0.mk hws
  have HWL := Aside0.mk hw
  have HDL := Aside0.mk hdl
  clear a0 a1 a2 a3 a4 a5 a6 a7 a8 a9 a10 a11 adt hws hm
  clear hk
  go_enter Try.func35, Try.ntmps35
  go_upto_region 2 with (fail)
  have KS := Aside0.mk (show (w.alloc (.cells cx 30 (0, 0))).drew.cell? ⟨w.heap.size, 8, none⟩ = some (.int .u16 m.sub) from ksub)
  have KW := Aside0.mk (show (w.alloc (.cells cx 30 (0, 0))).drew.cell? ⟨w.heap.size, 12, none⟩ = some (.slice A12 m.words.length c12) from kw)
  have RWD := Aside0.mk (Kd.C_below RW_.out (below_drew (Below.refl _ _)))
  clear ksub kw kcode
  have HB := Aside0.mk (Below.refl (w.alloc (.cells cx 30 (0, 0))).drew.heap.size ((w.alloc (.cells cx 30 (0, 0))).drew))
  refine start_ (n := 9) (S := fun w' => True) (ds := []) #[false, false, false, false, false, false, false, false, false] (by kernel_rfl) rfl rfl trivial (fun hHeld => ?_)
  refine with_tabW lay.tab2 lay.bits2 (fun HT_ HW_ => ?_)
  refine pure_ (i := 0) (N := some 10) (v := ?_) (a' := ?_) #[true, false, false, false, false, false, false, false, false] rfl rfl (any_of HT_.out (by kernel_rfl)) (fun _ _ _ h => h) (Or.inl ⟨by rfl, ?_⟩) ?_ ?_
  rotate_left
  · intro w'
    go_simp
    with_reducible rfl
  rotate_left
  · simp only [Act.put, List.setIfInBounds_toArray, List.set_cons_zero, List.set_cons_succ, i64_w, i32_w]
    rfl
  refine pure_ (i := 4) (N := some 14) (v := ?_) (a' := ?_) #[true, false, false, false, true, false, false, false, false] rfl rfl (any_of HT_.out (by kernel_rfl)) (fun _ _ _ h => h) (Or.inl ⟨by rfl, ?_⟩) ?_ ?_
  rotate_left
  · intro w'
    go_simp
    with_reducible rfl
  rotate_left
  · simp only [Act.put, List.setIfInBounds_toArray, List.set_cons_zero, List.set_cons_succ, i64_w, i32_w]
    rfl
  refine inv_at [1, 2, 3, 5, 6, 7, 8] (fun a0_ b a w' => ∃ (v2 : Value) (v3 : Value) (v6 : Value) (v7 : Value) (m8_ : Value), a = putSel a0_ b [(1, 11, .int .u16 m.sub), (2, 12, v2), (3, 13, v3), (5, 15, .slice A12 m.words.length c12), (6, 16, v6), (7, 17, v7), (8, 4, m8_)] ∧ (Below (w.alloc (.cells cx 30 (0, 0))).drew.heap.size (w.alloc (.cells cx 30 (0, 0))).drew w') ∧ (b 2 = true → b 3 = false → Kd.R (Kd.int .u16) 24 w' (w.alloc (.cells cx 30 (0, 0))).drew.heap.size (fun _ => True) v2 ([m.sub])) ∧ (b 3 = true → b 7 = false → Kd.R (Kd.int .u8) 5 w' (w.alloc (.cells cx 30 (0, 0))).drew.heap.size (fun _ => True) v3 (putL [m.sub])) ∧ (b 6 = true → b 7 = false → Kd.R (Kd.int .u8) 5 w' (w.alloc (.cells cx 30 (0, 0))).drew.heap.size (fun _ => True) v6 (putL m.words)) ∧ (b 7 = true → Kd.R (Kd.int .u8) 5 w' (w.alloc (.cells cx 30 (0, 0))).drew.heap.size (fun _ => True) v7 (putL [m.sub] ++ putL m.words)) ∧ (b 8 = true → (m8_ : Value) = v7)) HT_.out HW_.out (by kernel_rfl) (by kernel_rfl) ?_ ?_ ?_
  · exact ⟨.bool false, .bool false, .bool false, .bool false, .bool false, by simp only [putSel, Bool.false_eq_true, if_false], HB.out, fun h_ => absurd h_ (by decide), fun h_ => absurd h_ (by decide), fun h_ => absurd h_ (by decide), fun h_ => absurd h_ (by decide), fun h_ => absurd h_ (by decide)⟩
  · skip
    clear HB
    refine steps_cons ?_ ?_
    · rintro b a w' ⟨v2, v3, v6, v7, m8_, ha, Q_HB, Q_R2, Q_R3, Q_R6, Q_R7, Q_X8_⟩ hb_ hon hoff
      refine ⟨_, rfl, fun K hK => ?_⟩
      have e10 : a.tmps[10]? = some (.pointer (some ⟨w.heap.size, 8, none⟩)) := by rw [ha]; exact (putSel_off rfl).trans rfl
      replace ha := Aside0.mk ha
      have HB := Aside0.mk Q_HB
      have hs1_ : w'.cell? ⟨w.heap.size, 8, none⟩ = some (.int .u16 m.sub) := (HB.out.cell (World.block_lt_of_cell? _ _ KS.out)).trans KS.out
      refine value_ (w1 := w') (v := .int .u16 m.sub) (by rfl) rfl ?_ ?_
      · go_simp
        (try simp only [i64_w])
        try rfl
      refine hK.out _ _ ⟨v2, v3, v6, v7, m8_, (by rw [ha.out]; exact putSel_upk 0 hb_ rfl rfl rfl), Q_HB, fun h0_ _ => absurd ((hoff 2 (by kernel_rfl)).symm.trans h0_) (by decide), fun h0_ _ => absurd ((hoff 3 (by kernel_rfl)).symm.trans h0_) (by decide), fun h0_ _ => absurd ((hoff 6 (by kernel_rfl)).symm.trans h0_) (by decide), fun h0_ => absurd ((hoff 7 (by kernel_rfl)).symm.trans h0_) (by decide), fun h0_ => absurd ((hoff 8 (by kernel_rfl)).symm.trans h0_) (by decide)⟩
    refine steps_cons ?_ ?_
    · rintro b a w' ⟨v2, v3, v6, v7, m8_, ha, Q_HB, Q_R2, Q_R3, Q_R6, Q_R7, Q_X8_⟩ hb_ hon hoff
      refine ⟨_, rfl, fun K hK => ?_⟩
      have e11 : a.tmps[11]? = some (.int .u16 m.sub) := by rw [ha]; exact putSel_on (e := (1, 11, .int .u16 m.sub)) 0 rfl rfl (hon 1 (by kernel_rfl)) rfl
      replace ha := Aside0.mk ha
      have HB := Aside0.mk Q_HB
      refine Kd.R_lit_step (Kd.int .u16) (w0 := (w.alloc (.cells cx 30 (0, 0))).drew) (w.alloc (.cells cx 30 (0, 0))).drew.heap.size 24 (by rfl) (N := 12) rfl (xs := [m.sub]) (inner := [.int .u16 (m.sub)]) (ok := fun _ => True) (okp := fun _ => True) ?hr (Reps.one (show Kd.M (Kd.int .u16) _ _ _ (m.sub) [.int .u16 (m.sub)] from rfl) (Reps.none _ _)) (fun _ hk => hk) trivial HB.out HB.out.size (by simp) ?_
      case hr => first | (go_simp; done) | (go_simp; rfl)
      intro nv_ w2 hR_ hB_ hg_ hn_
      have z_R3 := fun (h0_ : b 3 = true) (h1_ : b 7 = false) => (show Kd.R (Kd.int .u8) 5 w2 (w.alloc (.cells cx 30 (0, 0))).drew.heap.size (fun _ => True) v3 (putL [m.sub]) from Kd.R_grown (Q_R3 h0_ h1_) hg_ (fun _ _ => by simp))
      have z_R6 := fun (h0_ : b 6 = true) (h1_ : b 7 = false) => (show Kd.R (Kd.int .u8) 5 w2 (w.alloc (.cells cx 30 (0, 0))).drew.heap.size (fun _ => True) v6 (putL m.words) from Kd.R_grown (Q_R6 h0_ h1_) hg_ (fun _ _ => by simp))
      have z_R7 := fun (h0_ : b 7 = true) => (show Kd.R (Kd.int .u8) 5 w2 (w.alloc (.cells cx 30 (0, 0))).drew.heap.size (fun _ => True) v7 (putL [m.sub] ++ putL m.words) from Kd.R_grown (Q_R7 h0_) hg_ (fun _ _ => by simp))
      refine hK.out _ _ ⟨nv_, v3, v6, v7, m8_, (by rw [ha.out]; exact putSel_upk 1 hb_ rfl rfl rfl), hB_, fun _ _ => hR_, fun h0_ _ => absurd ((hoff 3 (by kernel_rfl)).symm.trans h0_) (by decide), fun h0_ _ => absurd ((hoff 6 (by kernel_rfl)).symm.trans h0_) (by decide), fun h0_ => absurd ((hoff 7 (by kernel_rfl)).symm.trans h0_) (by decide), fun h0_ => absurd ((hoff 8 (by kernel_rfl)).symm.trans h0_) (by decide)⟩
    refine steps_cons ?_ ?_
    · rintro b a w' ⟨v2, v3, v6, v7, m8_, ha, Q_HB, Q_R2, Q_R3, Q_R6, Q_R7, Q_X8_⟩ hb_ hon hoff
      refine ⟨_, rfl, fun K hK => ?_⟩
      have e12 : a.tmps[12]? = some (v2) := by rw [ha]; exact putSel_on (e := (2, 12, v2)) 1 rfl rfl (hon 2 (by kernel_rfl)) rfl
      replace ha := Aside0.mk ha
      have HB := Aside0.mk Q_HB
      have R2 := Aside0.mk (Q_R2 (hon 2 (by kernel_rfl)) hb_)
      obtain ⟨A_, c_, ev_, hc_, hr_⟩ := Kd.R_reads R2.out
      rw [ev_] at e12
      refine goes_ Try.func49 (by kernel_rfl) rfl #[.slice A_ ([m.sub]).length c_] (by rfl) rfl rfl (by first | (simp only [List.map_toArray, List.map_cons, List.map_nil, Act.eval, Array.getD_eq_getD_getElem?, Option.getD_some, e12]; done) | (simp only [List.map_toArray, List.map_cons, List.map_nil, Act.eval, Array.getD_eq_getD_getElem?, Option.getD_some, e12]; rfl)) ?_
      with_reducible refine (put_r (ws := [m.sub]) rfl (is16_1 HA.out.2.1) (by simp) hr_ hc_).mono ?_
      rintro en w2 ⟨nv_, rfl, hR_, hB_⟩
      refine ⟨_, rfl, ?_⟩
      have z_R6 := fun (h0_ : b 6 = true) (h1_ : b 7 = false) => (show Kd.R (Kd.int .u8) 5 w2 (w.alloc (.cells cx 30 (0, 0))).drew.heap.size (fun _ => True) v6 (putL m.words) from Kd.R_below (Q_R6 h0_ h1_) hB_)
      have z_R7 := fun (h0_ : b 7 = true) => (show Kd.R (Kd.int .u8) 5 w2 (w.alloc (.cells cx 30 (0, 0))).drew.heap.size (fun _ => True) v7 (putL [m.sub] ++ putL m.words) from Kd.R_below (Q_R7 h0_) hB_)
      refine hK.out _ _ ⟨v2, nv_, v6, v7, m8_, (by rw [ha.out]; exact putSel_upk 2 hb_ rfl rfl rfl), HB.out.trans (hB_.mono HB.out.size), fun _ h1_ => absurd ((up_self b 3).symm.trans h1_) (by decide), fun _ _ => Kd.R_lower hR_ HB.out.size, fun h0_ _ => absurd ((hoff 6 (by kernel_rfl)).symm.trans h0_) (by decide), fun h0_ => absurd ((hoff 7 (by kernel_rfl)).symm.trans h0_) (by decide), fun h0_ => absurd ((hoff 8 (by kernel_rfl)).symm.trans h0_) (by decide)⟩
    refine steps_cons ?_ ?_
    · rintro b a w' ⟨v2, v3, v6, v7, m8_, ha, Q_HB, Q_R2, Q_R3, Q_R6, Q_R7, Q_X8_⟩ hb_ hon hoff
      refine ⟨_, rfl, fun K hK => ?_⟩
      have e14 : a.tmps[14]? = some (.pointer (some ⟨w.heap.size, 12, none⟩)) := by rw [ha]; exact (putSel_off rfl).trans rfl
      replace ha := Aside0.mk ha
      have HB := Aside0.mk Q_HB
      have hs5_ : w'.cell? ⟨w.heap.size, 12, none⟩ = some (.slice A12 m.words.length c12) := (HB.out.cell (World.block_lt_of_cell? _ _ KW.out)).trans KW.out
      refine value_ (w1 := w') (v := .slice A12 m.words.length c12) (by rfl) rfl ?_ ?_
      · go_simp
        (try simp only [i64_w])
        try rfl
      refine hK.out _ _ ⟨v2, v3, v6, v7, m8_, (by rw [ha.out]; exact putSel_upk 3 hb_ rfl rfl rfl), Q_HB, Q_R2, Q_R3, fun h0_ _ => absurd ((hoff 6 (by kernel_rfl)).symm.trans h0_) (by decide), fun h0_ => absurd ((hoff 7 (by kernel_rfl)).symm.trans h0_) (by decide), fun h0_ => absurd ((hoff 8 (by kernel_rfl)).symm.trans h0_) (by decide)⟩
    refine steps_cons ?_ ?_
    · rintro b a w' ⟨v2, v3, v6, v7, m8_, ha, Q_HB, Q_R2, Q_R3, Q_R6, Q_R7, Q_X8_⟩ hb_ hon hoff
      refine ⟨_, rfl, fun K hK => ?_⟩
      have e15 : a.tmps[15]? = some (.slice A12 m.words.length c12) := by rw [ha]; exact putSel_on (e := (5, 15, .slice A12 m.words.length c12)) 3 rfl rfl (hon 5 (by kernel_rfl)) rfl
      replace ha := Aside0.mk ha
      have HB := Aside0.mk Q_HB
      have R3 := Aside0.mk (Q_R3 (hon 3 (by kernel_rfl)) (hoff 7 (by kernel_rfl)))
      refine goes_ Try.func49 (by kernel_rfl) rfl #[.slice A12 m.words.length c12] (by rfl) rfl rfl (by first | (simp only [List.map_toArray, List.map_cons, List.map_nil, Act.eval, Array.getD_eq_getD_getElem?, Option.getD_some, e15]; done) | (simp only [List.map_toArray, List.map_cons, List.map_nil, Act.eval, Array.getD_eq_getD_getElem?, Option.getD_some, e15]; rfl)) ?_
      with_reducible refine (put_r (ws := m.words) rfl HWS.out (by have := HWL.out; omega) (Kd.C_below RWD.out HB.out) QW.out).mono ?_
      rintro en w2 ⟨nv_, rfl, hR_, hB_⟩
      refine ⟨_, rfl, ?_⟩
      have z_R2 := fun (h0_ : b 2 = true) (h1_ : b 3 = false) => (show Kd.R (Kd.int .u16) 24 w2 (w.alloc (.cells cx 30 (0, 0))).drew.heap.size (fun _ => True) v2 ([m.sub]) from Kd.R_below (Q_R2 h0_ h1_) hB_)
      have z_R3 := fun (h0_ : b 3 = true) (h1_ : b 7 = false) => (show Kd.R (Kd.int .u8) 5 w2 (w.alloc (.cells cx 30 (0, 0))).drew.heap.size (fun _ => True) v3 (putL [m.sub]) from Kd.R_below (Q_R3 h0_ h1_) hB_)
      have z_R7 := fun (h0_ : b 7 = true) => (show Kd.R (Kd.int .u8) 5 w2 (w.alloc (.cells cx 30 (0, 0))).drew.heap.size (fun _ => True) v7 (putL [m.sub] ++ putL m.words) from Kd.R_below (Q_R7 h0_) hB_)
      refine hK.out _ _ ⟨v2, v3, nv_, v7, m8_, (by rw [ha.out]; exact putSel_upk 4 hb_ rfl rfl rfl), HB.out.trans (hB_.mono HB.out.size), fun _ h1_ => absurd ((hon 3 (by kernel_rfl)).symm.trans h1_) (by decide), z_R3, fun _ _ => Kd.R_lower hR_ HB.out.size, fun h0_ => absurd ((hoff 7 (by kernel_rfl)).symm.trans h0_) (by decide), fun h0_ => absurd ((hoff 8 (by kernel_rfl)).symm.trans h0_) (by decide)⟩
    refine steps_cons ?_ ?_
    · rintro b a w' ⟨v2, v3, v6, v7, m8_, ha, Q_HB, Q_R2, Q_R3, Q_R6, Q_R7, Q_X8_⟩ hb_ hon hoff
      refine ⟨_, rfl, fun K hK => ?_⟩
      have e13 : a.tmps[13]? = some (v3) := by rw [ha]; exact putSel_on (e := (3, 13, v3)) 2 rfl rfl (hon 3 (by kernel_rfl)) rfl
      have e16 : a.tmps[16]? = some (v6) := by rw [ha]; exact putSel_on (e := (6, 16, v6)) 4 rfl rfl (hon 6 (by kernel_rfl)) rfl
      replace ha := Aside0.mk ha
      have HB := Aside0.mk Q_HB
      have R3 := Aside0.mk (Q_R3 (hon 3 (by kernel_rfl)) hb_)
      have R6 := Aside0.mk (Q_R6 (hon 6 (by kernel_rfl)) hb_)
      obtain ⟨A_, c_, ev_, hc_, hr_⟩ := Kd.R_reads R6.out
      have HX_ : a.eval (.tmp 16) = .slice A_ (putL m.words).length c_ := by rw [← ev_]; exact (by simp only [Act.eval, Array.getD_eq_getD_getElem?, Option.getD_some, e16])
      refine Kd.R_append_rows_step (Kd.int .u8) (w0 := (w.alloc (.cells cx 30 (0, 0))).drew) (w.alloc (.cells cx 30 (0, 0))).drew.heap.size (by rfl) (.tmp 13) (.tmp 16) 22 5 (.int .u8 0) 1 rfl Try.underlying22 (by kernel_rfl) rfl (by decide) (by decide) v3 (putL [m.sub]) (putL m.words) A_ ((putL m.words).length) c_ (fun _ => True) (fun _ => False) (by simp only [Act.eval, Array.getD_eq_getD_getElem?, Option.getD_some, e13]) HX_ R3.out hr_ (fun _ _ h => h) (fun _ h => h.elim) (fun _ _ => trivial) HB.out HB.out.size (by rw [putL_length, putL_length]; have := HWL.out; simp only [List.length_cons, List.length_nil]; omega) ?_
      intro nv_ w2 hR_ hB_ hg_ hat_
      refine hK.out _ _ ⟨v2, v3, v6, nv_, m8_, (by rw [ha.out]; exact putSel_upk 5 hb_ rfl rfl rfl), hB_, fun _ h1_ => absurd ((hon 3 (by kernel_rfl)).symm.trans h1_) (by decide), fun _ h1_ => absurd ((up_self b 7).symm.trans h1_) (by decide), fun _ h1_ => absurd ((up_self b 7).symm.trans h1_) (by decide), fun _ => hR_, fun h0_ => absurd ((hoff 8 (by kernel_rfl)).symm.trans h0_) (by decide)⟩
    refine steps_cons ?_ ?_
    · rintro b a w' ⟨v2, v3, v6, v7, m8_, ha, Q_HB, Q_R2, Q_R3, Q_R6, Q_R7, Q_X8_⟩ hb_ hon hoff
      refine ⟨_, rfl, fun K hK => ?_⟩
      have e17 : a.tmps[17]? = some (v7) := by rw [ha]; exact putSel_on (e := (7, 17, v7)) 5 rfl rfl (hon 7 (by kernel_rfl)) rfl
      replace ha := Aside0.mk ha
      have HB := Aside0.mk Q_HB
      have R7 := Aside0.mk (Q_R7 (hon 7 (by kernel_rfl)))
      refine value_ (w1 := w') (v := v7) (by rfl) rfl ?_ ?_
      · go_simp
        (try simp only [i64_w])
        try rfl
      refine hK.out _ _ ⟨v2, v3, v6, v7, (v7), (by rw [ha.out]; exact putSel_upk 6 hb_ rfl rfl rfl), Q_HB, fun _ h1_ => absurd ((hon 3 (by kernel_rfl)).symm.trans h1_) (by decide), fun _ h1_ => absurd ((hon 7 (by kernel_rfl)).symm.trans h1_) (by decide), fun _ h1_ => absurd ((hon 7 (by kernel_rfl)).symm.trans h1_) (by decide), Q_R7, fun _ => rfl⟩
    exact steps_nil
  rintro b a w2 hall ⟨v2, v3, v6, v7, m8_, ha, Q_HB, Q_R2, Q_R3, Q_R6, Q_R7, Q_X8_⟩
  clear HB
  have hb1_ := hall 1 (by kernel_rfl)
  have hb2_ := hall 2 (by kernel_rfl)
  have hb3_ := hall 3 (by kernel_rfl)
  have hb5_ := hall 5 (by kernel_rfl)
  have hb6_ := hall 6 (by kernel_rfl)
  have hb7_ := hall 7 (by kernel_rfl)
  have hb8_ := hall 8 (by kernel_rfl)
  subst ha
  obtain rfl := Q_X8_ hb8_
  simp only [putSel, hb1_, hb2_, hb3_, hb5_, hb6_, hb7_, hb8_, if_true, Act.put, List.setIfInBounds_toArray, List.set_cons_zero, List.set_cons_succ]
  have HB := Aside0.mk Q_HB
  clear Q_HB
  clear Q_R2
  clear Q_R3
  clear Q_R6
  have R7 := Aside0.mk (Q_R7 hb7_)
  clear Q_R7
  clear hall hb1_ hb2_ hb3_ hb5_ hb6_ hb7_ hb8_
  obtain ⟨A7, c7, rfl, hz7, hr7⟩ := Kd.R_reads R7.out
  have HZ7 := Aside0.mk hz7
  have HR7 := Aside0.mk hr7
  have HBW := Aside0.mk (H.out.dr.on HB.out).b
  clear hz7 hr7 H HB R7
  go_wp2
  go_ret
  exact ⟨A7, c7, by rw [len8 m.sub m.words]; rfl, HZ7.out, HR7.out, HBW.out⟩
theorem lay_0 {dir : Int} {m : Msg} {cx : Array Value} {w : World} (hm : IsMsg w cx m) (hdl : m.data.length ≤ 900000) (hw : m.words.length ≤ 900000) (hk : m.code ≠ 8) (hd : dir = 0) :
    Calls Try.prog 35 #[.int .i64 dir, .agg cx] w fun en w' => ∃ A c, en = .returned (.slice A (lay dir m).length c) ∧ (lay dir m).length ≤ c ∧ Kd.C (Kd.int .u8) w' A (lay dir m).length (lay dir m) ∧ Below w.heap.size w w' := by
  obtain ⟨⟨a0, a1, a2, a3, a4, a5, a6, a7, a8, a9, a10, a11, _⟩, adt, _⟩ := goodM_num hm.good
  have hws : is16 m.words := hm.good.2.1
  have H := Aside0.mk (Hd.start w)
  have hsz := hm.size
  have hix := msg_info hsz
  have n0_ := Aside0.mk ((((H.out.on (below_alloc (Below.refl _ _) (Obj.cells cx 30)))).add (sta_blk _ _) (blk_new _ _)).add (sta_msg _ _) (hm.on (below_alloc (Below.refl _ _) _)))
  clear H
  have H := n0_
  clear n0_
  have b8 : (m.code == 8) = false := beq_eq_false_iff_ne.2 hk
  have bd : (dir == 0) = true := beq_iff_eq.2 hd
  have kcode := bx_code H.out.f.1.2 H.out.f.2
  rw [show lay dir m = [] from by unfold lay; rw [if_neg hk, if_pos hd]]
  have HA := Aside0.mk (And.intro a4 (And.intro a8 (And.intro a9 (And.intro a10 a11))))
  have HWS := Aside0.mk hws
  have HWL := Aside0.mk hw
  have HDL := Aside0.mk hdl
  clear a0 a1 a2 a3 a4 a5 a6 a7 a8 a9 a10 a11 adt hws hm
  clear hk hd
  go_enter Try.func35, Try.ntmps35
  go_wp2_with (first | (fail))
  go_ret
  exact ⟨none, 0, rfl, Nat.le_refl _, Kd.C_nil _ _, H.out.b⟩
theorem lay_7 {dir : Int} {m : Msg} {cx : Array Value} {w : World} (hm : IsMsg w cx m) (hdl : m.data.length ≤ 900000) (hw : m.words.length ≤ 900000) (hd : dir ≠ 0) (hk : m.code = 7) :
    Calls Try.prog 35 #[.int .i64 dir, .agg cx] w fun en w' => ∃ A c, en = .returned (.slice A (lay dir m).length c) ∧ (lay dir m).length ≤ c ∧ Kd.C (Kd.int .u8) w' A (lay dir m).length (lay dir m) ∧ Below w.heap.size w w' := by
  obtain ⟨⟨a0, a1, a2, a3, a4, a5, a6, a7, a8, a9, a10, a11, _⟩, adt, _⟩ := goodM_num hm.good
  have hws : is16 m.words := hm.good.2.1
  have H := Aside0.mk (Hd.start w)
  have hsz := hm.size
  have hix := msg_info hsz
  have n0_ := Aside0.mk ((((H.out.on (below_alloc (Below.refl _ _) (Obj.cells cx 30)))).add (sta_blk _ _) (blk_new _ _)).add (sta_msg _ _) (hm.on (below_alloc (Below.refl _ _) _)))
  clear H
  have H := n0_
  clear n0_
  have b8 : (m.code == 8) = false := beq_eq_false_iff_ne.2 (by omega)
  have b7 : (m.code == 7) = true := beq_iff_eq.2 hk
  have b11 : (m.code == 11) = false := beq_eq_false_iff_ne.2 (by omega)
  have b12 : (m.code == 12) = false := beq_eq_false_iff_ne.2 (by omega)
  have bd : (dir == 0) = false := beq_eq_false_iff_ne.2 hd
  have kcode := bx_code H.out.f.1.2 H.out.f.2
  rw [show lay dir m = [m.value % 256] from by unfold lay; rw [if_neg (by omega), if_neg hd, if_pos hk]]
  have kval := bx_value H.out.f.1.2 H.out.f.2
  have wv : IntKind.u8.wrap m.value = m.value % 256 := by rw [IntKind.wrap_u8]
  have HA := Aside0.mk (And.intro a4 (And.intro a8 (And.intro a9 (And.intro a10 a11))))
  have HWS := Aside0.mk hws
  have HWL := Aside0.mk hw
  have HDL := Aside0.mk hdl
  clear a0 a1 a2 a3 a4 a5 a6 a7 a8 a9 a10 a11 adt hws hm
  clear hk
  clear hd
  go_enter Try.func35, Try.ntmps35
  go_wp2_with (first | ((with_reducible refine gate_dst (N := 28) rfl ?_); (try (refine gate_guard (by rfl) ?_; dsimp only)); refine ev_lit .u8 [m.value % 256] 5 rfl (by first | (go_simp; done) | (go_simp; rfl)) (by simp) ?_; intro Al cl wl bl he_ hr_ hz_ hb_; have Zl := Aside0.mk hz_; have El := Aside0.mk he_; have n0_ := Aside0.mk ((H.out.on hb_).add (sta_C _ _ _ _) (hr_)); clear H; have H := n0_; clear n0_; clear hr_ hz_ hb_ he_))
  go_ret
  exact ⟨Al, cl, by rw [El.out]; rfl, by have := Zl.out; rw [El.out] at this; exact this, by have := H.out.f.2; rw [El.out] at this; exact this, H.out.b⟩
theorem lay_11 {dir : Int} {m : Msg} {cx : Array Value} {w : World} (hm : IsMsg w cx m) (hdl : m.data.length ≤ 900000) (hw : m.words.length ≤ 900000) (hd : dir ≠ 0) (hk : m.code = 11) :
    Calls Try.prog 35 #[.int .i64 dir, .agg cx] w fun en w' => ∃ A c, en = .returned (.slice A (lay dir m).length c) ∧ (lay dir m).length ≤ c ∧ Kd.C (Kd.int .u8) w' A (lay dir m).length (lay dir m) ∧ Below w.heap.size w w' := by
  obtain ⟨⟨a0, a1, a2, a3, a4, a5, a6, a7, a8, a9, a10, a11, _⟩, adt, _⟩ := goodM_num hm.good
  have hws : is16 m.words := hm.good.2.1
  have H := Aside0.mk (Hd.start w)
  have hsz := hm.size
  have hix := msg_info hsz
  have n0_ := Aside0.mk ((((H.out.on (below_alloc (Below.refl _ _) (Obj.cells cx 30)))).add (sta_blk _ _) (blk_new _ _)).add (sta_msg _ _) (hm.on (below_alloc (Below.refl _ _) _)))
  clear H
  have H := n0_
  clear n0_
  have b8 : (m.code == 8) = false := beq_eq_false_iff_ne.2 (by omega)
  have b7 : (m.code == 7) = false := beq_eq_false_iff_ne.2 (by omega)
  have b11 : (m.code == 11) = true := beq_iff_eq.2 hk
  have b12 : (m.code == 12) = false := beq_eq_false_iff_ne.2 (by omega)
  have bd : (dir == 0) = false := beq_eq_false_iff_ne.2 hd
  have kcode := bx_code H.out.f.1.2 H.out.f.2
  rw [show lay dir m = putL [m.status, m.events] from by unfold lay; rw [if_neg (by omega), if_neg hd, if_neg (by omega), if_pos hk]]
  have ks := bx_status H.out.f.1.2 H.out.f.2
  have ke := bx_events H.out.f.1.2 H.out.f.2
  have HA := Aside0.mk (And.intro a4 (And.intro a8 (And.intro a9 (And.intro a10 a11))))
  have HWS := Aside0.mk hws
  have HWL := Aside0.mk hw
  have HDL := Aside0.mk hdl
  clear a0 a1 a2 a3 a4 a5 a6 a7 a8 a9 a10 a11 adt hws hm
  clear hk
  clear hd
  go_enter Try.func35, Try.ntmps35
  go_wp2_with (first | ((with_reducible refine gate_dst (N := 37) rfl ?_); (try (refine gate_guard (by rfl) ?_; dsimp only)); refine ev_lit .u16 [m.status, m.events] 24 rfl (by first | (go_simp; done) | (go_simp; rfl)) (by simp) ?_; intro Al cl wl bl he_ hr_ hz_ hb_; have Zl := Aside0.mk hz_; have El := Aside0.mk he_; have n0_ := Aside0.mk ((H.out.on hb_).add (sta_C _ _ _ _) (hr_)); clear H; have H := n0_; clear n0_; clear hr_ hz_ hb_ he_) | (go_at_call 49; (with_reducible refine (put_b (ws := bl) rfl (by rw [El.out]; exact is16_2 HA.out.2.2.1 HA.out.2.2.2.1) (by rw [El.out]; simp) H.out.f.2 Zl.out).mono ?_); rintro en wq ⟨Aq, cq, rfl, hz_, hr_, hb_⟩; have n0_ := Aside0.mk ((H.out.on hb_).add (sta_C _ _ _ _) (hr_)); clear H; have H := n0_; clear n0_; have Zq := Aside0.mk hz_; clear hb_ hz_ hr_))
  go_ret
  rw [← El.out]
  exact ⟨Aq, cq, rfl, Zq.out, H.out.f.2, H.out.b⟩
def lay.T10 : Bool × List (List Nat × List Nat) := (true, [([], []), ([0], [0]), ([1], [1]), ([2], [2]), ([3], [3]), ([4], [4]), ([], []), ([6], [6]), ([], []), ([8], [8]), ([], []), ([10], [10]), ([7, 9, 11], [7, 9, 11]), ([12], [12]), ([5, 13, 13], [5, 13]), ([14, 14, 0, 1, 2, 3, 4, 5, 6, 7, 8, 9, 10, 11, 12, 13, 14], [14])])
def lay.B10 : List Nat := [0, 1, 3, 7, 15, 31, 0, 64, 0, 256, 0, 1024, 4032, 8128, 16383, 32767]
theorem lay.tab10 : rtab .any (opsOf Try.f35 10) = lay.T10 := by kernel_rfl
theorem lay.bits10 : waitsOk lay.T10.2 lay.B10 = true := by kernel_rfl
theorem lay_12 {dir : Int} {m : Msg} {cx : Array Value} {w : World} (hm : IsMsg w cx m) (hdl : m.data.length ≤ 900000) (hw : m.words.length ≤ 900000) (hd : dir ≠ 0) (hk : m.code = 12) :
    Calls Try.prog 35 #[.int .i64 dir, .agg cx] w fun en w' => ∃ A c, en = .returned (.slice A (lay dir m).length c) ∧ (lay dir m).length ≤ c ∧ Kd.C (Kd.int .u8) w' A (lay dir m).length (lay dir m) ∧ Below w.heap.size w w' := by
  obtain ⟨⟨a0, a1, a2, a3, a4, a5, a6, a7, a8, a9, a10, a11, _⟩, adt, _⟩ := goodM_num hm.good
  have hws : is16 m.words := hm.good.2.1
  have H := Aside0.mk (Hd.start w)
  have hsz := hm.size
  have hix := msg_info hsz
  have n0_ := Aside0.mk ((((H.out.on (below_alloc (Below.refl _ _) (Obj.cells cx 30)))).add (sta_blk _ _) (blk_new _ _)).add (sta_msg _ _) (hm.on (below_alloc (Below.refl _ _) _)))
  clear H
  have H := n0_
  clear n0_
  have b8 : (m.code == 8) = false := beq_eq_false_iff_ne.2 (by omega)
  have b7 : (m.code == 7) = false := beq_eq_false_iff_ne.2 (by omega)
  have b11 : (m.code == 11) = false := beq_eq_false_iff_ne.2 (by omega)
  have b12 : (m.code == 12) = true := beq_iff_eq.2 hk
  have bd : (dir == 0) = false := beq_eq_false_iff_ne.2 hd
  have kcode := bx_code H.out.f.1.2 H.out.f.2
  rw [show lay dir m = logged m.status m.events m.messages m.data from by unfold lay; rw [if_neg (by omega), if_neg hd, if_neg (by omega), if_neg (by omega), if_pos hk]]
  obtain ⟨A12, c12, A13, c13, A14, c14, A15, c15, A21, c21, ⟨l12, _, l14, _, _⟩, ⟨r12, q12⟩, _, ⟨r14, q14⟩, _, _⟩ := IsMsg.lists H.out.f.2
  have kd := (blk_cell H.out.f.1.2 14).trans l14
  have RD := Aside0.mk r14
  have QD := Aside0.mk q14
  clear l12 r12 q12 l14 r14 q14
  have ks := bx_status H.out.f.1.2 H.out.f.2
  have ke := bx_events H.out.f.1.2 H.out.f.2
  have kg := bx_messages H.out.f.1.2 H.out.f.2
  have HA := Aside0.mk (And.intro a4 (And.intro a8 (And.intro a9 (And.intro a10 a11))))
  have HWS := Aside0.mk hws
  have HWL := Aside0.mk hw
  have HDL := Aside0.mk hdl
  clear a0 a1 a2 a3 a4 a5 a6 a7 a8 a9 a10 a11 adt hws hm
  clear hk
  clear hd
  go_enter Try.func35, Try.ntmps35
  go_upto_region 10 with (fail)
  have KD := Aside0.mk (show (w.alloc (.cells cx 30 (0, 0))).drew.cell? ⟨w.heap.size, 14, none⟩ = some (.slice A14 m.data.length c14) from kd)
  have KS := Aside0.mk (show (w.alloc (.cells cx 30 (0, 0))).drew.cell? ⟨w.heap.size, 9, none⟩ = some (.int .u16 m.status) from ks)
  have KE := Aside0.mk (show (w.alloc (.cells cx 30 (0, 0))).drew.cell? ⟨w.heap.size, 10, none⟩ = some (.int .u16 m.events) from ke)
  have KG := Aside0.mk (show (w.alloc (.cells cx 30 (0, 0))).drew.cell? ⟨w.heap.size, 11, none⟩ = some (.int .u16 m.messages) from kg)
  have RDD := Aside0.mk (Kd.C_below RD.out (below_drew (Below.refl _ _)))
  clear kd ks ke kg kcode
  have HB := Aside0.mk (Below.refl (w.alloc (.cells cx 30 (0, 0))).drew.heap.size ((w.alloc (.cells cx 30 (0, 0))).drew))
  refine start_ (n := 16) (S := fun w' => True) (ds := []) #[false, false, false, false, false, false, false, false, false, false, false, false, false, false, false, false] (by kernel_rfl) rfl rfl trivial (fun hHeld => ?_)
  refine with_tabW lay.tab10 lay.bits10 (fun HT_ HW_ => ?_)
  refine pure_ (i := 0) (N := some 43) (v := ?_) (a' := ?_) #[true, false, false, false, false, false, false, false, false, false, false, false, false, false, false, false] rfl rfl (any_of HT_.out (by kernel_rfl)) (fun _ _ _ h => h) (Or.inl ⟨by rfl, ?_⟩) ?_ ?_
  rotate_left
  · intro w'
    go_simp
    with_reducible rfl
  rotate_left
  · simp only [Act.put, List.setIfInBounds_toArray, List.set_cons_zero, List.set_cons_succ, i64_w, i32_w]
    rfl
  refine pure_ (i := 6) (N := some 49) (v := ?_) (a' := ?_) #[true, false, false, false, false, false, true, false, false, false, false, false, false, false, false, false] rfl rfl (any_of HT_.out (by kernel_rfl)) (fun _ _ _ h => h) (Or.inl ⟨by rfl, ?_⟩) ?_ ?_
  rotate_left
  · intro w'
    go_simp
    with_reducible rfl
  rotate_left
  · simp only [Act.put, List.setIfInBounds_toArray, List.set_cons_zero, List.set_cons_succ, i64_w, i32_w]
    rfl
  refine pure_ (i := 8) (N := some 51) (v := ?_) (a' := ?_) #[true, false, false, false, false, false, true, false, true, false, false, false, false, false, false, false] rfl rfl (any_of HT_.out (by kernel_rfl)) (fun _ _ _ h => h) (Or.inl ⟨by rfl, ?_⟩) ?_ ?_
  rotate_left
  · intro w'
    go_simp
    with_reducible rfl
  rotate_left
  · simp only [Act.put, List.setIfInBounds_toArray, List.set_cons_zero, List.set_cons_succ, i64_w, i32_w]
    rfl
  refine pure_ (i := 10) (N := some 53) (v := ?_) (a' := ?_) #[true, false, false, false, false, false, true, false, true, false, true, false, false, false, false, false] rfl rfl (any_of HT_.out (by kernel_rfl)) (fun _ _ _ h => h) (Or.inl ⟨by rfl, ?_⟩) ?_ ?_
  rotate_left
  · intro w'
    go_simp
    with_reducible rfl
  rotate_left
  · simp only [Act.put, List.setIfInBounds_toArray, List.set_cons_zero, List.set_cons_succ, i64_w, i32_w]
    rfl
  refine inv_at [1, 2, 3, 4, 5, 7, 9, 11, 12, 13, 14, 15] (fun a0_ b a w' => ∃ (v5 : Value) (v12 : Value) (v13 : Value) (v14 : Value) (m15_ : Value), a = putSel a0_ b [(1, 44, .slice A14 m.data.length c14), (2, 45, .int .i64 (m.data.length : Int)), (3, 46, .int .i64 (6 + (m.data.length : Int))), (4, 47, .int .u8 (((m.data.length : Int) + 6) % 256)), (5, 48, v5), (7, 50, .int .u16 m.status), (9, 52, .int .u16 m.events), (11, 54, .int .u16 m.messages), (12, 55, v12), (13, 56, v13), (14, 57, v14), (15, 5, m15_)] ∧ (Below (w.alloc (.cells cx 30 (0, 0))).drew.heap.size (w.alloc (.cells cx 30 (0, 0))).drew w') ∧ (b 5 = true → b 14 = false → Kd.R (Kd.int .u8) 5 w' (w.alloc (.cells cx 30 (0, 0))).drew.heap.size (fun _ => True) v5 ([((m.data.length : Int) + 6) % 256])) ∧ (b 12 = true → b 13 = false → Kd.R (Kd.int .u16) 24 w' (w.alloc (.cells cx 30 (0, 0))).drew.heap.size (fun _ => True) v12 ([m.status, m.events, m.messages])) ∧ (b 13 = true → b 14 = false → Kd.R (Kd.int .u8) 5 w' (w.alloc (.cells cx 30 (0, 0))).drew.heap.size (fun _ => True) v13 (putL [m.status, m.events, m.messages])) ∧ (b 14 = true → Kd.R (Kd.int .u8) 5 w' (w.alloc (.cells cx 30 (0, 0))).drew.heap.size (fun _ => True) v14 ([((m.data.length : Int) + 6) % 256] ++ putL [m.status, m.events, m.messages])) ∧ (b 15 = true → (m15_ : Value) = v14)) HT_.out HW_.out (by kernel_rfl) (by kernel_rfl) ?_ ?_ ?_
  · exact ⟨.bool false, .bool false, .bool false, .bool false, .bool false, by simp only [putSel, Bool.false_eq_true, if_false], HB.out, fun h_ => absurd h_ (by decide), fun h_ => absurd h_ (by decide), fun h_ => absurd h_ (by decide), fun h_ => absurd h_ (by decide), fun h_ => absurd h_ (by decide)⟩
  · skip
    clear HB
    refine steps_cons ?_ ?_
    · rintro b a w' ⟨v5, v12, v13, v14, m15_, ha, Q_HB, Q_R5, Q_R12, Q_R13, Q_R14, Q_X15_⟩ hb_ hon hoff
      refine ⟨_, rfl, fun K hK => ?_⟩
      have e43 : a.tmps[43]? = some (.pointer (some ⟨w.heap.size, 14, none⟩)) := by rw [ha]; exact (putSel_off rfl).trans rfl
      replace ha := Aside0.mk ha
      have HB := Aside0.mk Q_HB
      have hs1_ : w'.cell? ⟨w.heap.size, 14, none⟩ = some (.slice A14 m.data.length c14) := (HB.out.cell (World.block_lt_of_cell? _ _ KD.out)).trans KD.out
      refine value_ (w1 := w') (v := .slice A14 m.data.length c14) (by rfl) rfl ?_ ?_
      · go_simp
        (try simp only [i64_w])
        try rfl
      refine hK.out _ _ ⟨v5, v12, v13, v14, m15_, (by rw [ha.out]; exact putSel_upk 0 hb_ rfl rfl rfl), Q_HB, fun h0_ _ => absurd ((hoff 5 (by kernel_rfl)).symm.trans h0_) (by decide), Q_R12, Q_R13, fun h0_ => absurd ((hoff 14 (by kernel_rfl)).symm.trans h0_) (by decide), fun h0_ => absurd ((hoff 15 (by kernel_rfl)).symm.trans h0_) (by decide)⟩
    refine steps_cons ?_ ?_
    · rintro b a w' ⟨v5, v12, v13, v14, m15_, ha, Q_HB, Q_R5, Q_R12, Q_R13, Q_R14, Q_X15_⟩ hb_ hon hoff
      refine ⟨_, rfl, fun K hK => ?_⟩
      have e44 : a.tmps[44]? = some (.slice A14 m.data.length c14) := by rw [ha]; exact putSel_on (e := (1, 44, .slice A14 m.data.length c14)) 0 rfl rfl (hon 1 (by kernel_rfl)) rfl
      replace ha := Aside0.mk ha
      have HB := Aside0.mk Q_HB
      refine value_ (w1 := w') (v := .int .i64 (m.data.length : Int)) (by rfl) rfl ?_ ?_
      · go_simp
        (try simp only [i64_w])
        try rfl
      refine hK.out _ _ ⟨v5, v12, v13, v14, m15_, (by rw [ha.out]; exact putSel_upk 1 hb_ rfl rfl rfl), Q_HB, fun h0_ _ => absurd ((hoff 5 (by kernel_rfl)).symm.trans h0_) (by decide), Q_R12, Q_R13, fun h0_ => absurd ((hoff 14 (by kernel_rfl)).symm.trans h0_) (by decide), fun h0_ => absurd ((hoff 15 (by kernel_rfl)).symm.trans h0_) (by decide)⟩
    refine steps_cons ?_ ?_
    · rintro b a w' ⟨v5, v12, v13, v14, m15_, ha, Q_HB, Q_R5, Q_R12, Q_R13, Q_R14, Q_X15_⟩ hb_ hon hoff
      refine ⟨_, rfl, fun K hK => ?_⟩
      have e45 : a.tmps[45]? = some (.int .i64 (m.data.length : Int)) := by rw [ha]; exact putSel_on (e := (2, 45, .int .i64 (m.data.length : Int))) 1 rfl rfl (hon 2 (by kernel_rfl)) rfl
      replace ha := Aside0.mk ha
      have HB := Aside0.mk Q_HB
      have w6 : wrap64 (6 + (m.data.length : Int)) = 6 + (m.data.length : Int) := wrap64_id (by have := HDL.out; omega) (by have := HDL.out; omega)
      have w6b : IntKind.i64.wrap (6 + (m.data.length : Int)) = 6 + (m.data.length : Int) := by rw [i64_w]; exact w6
      refine value_ (w1 := w') (v := .int .i64 (6 + (m.data.length : Int))) (by rfl) rfl ?_ ?_
      · go_simp
        (try simp only [i64_w])
        try rfl
      refine hK.out _ _ ⟨v5, v12, v13, v14, m15_, (by rw [ha.out]; exact putSel_upk 2 hb_ rfl rfl rfl), Q_HB, fun h0_ _ => absurd ((hoff 5 (by kernel_rfl)).symm.trans h0_) (by decide), Q_R12, Q_R13, fun h0_ => absurd ((hoff 14 (by kernel_rfl)).symm.trans h0_) (by decide), fun h0_ => absurd ((hoff 15 (by kernel_rfl)).symm.trans h0_) (by decide)⟩
    refine steps_cons ?_ ?_
    · rintro b a w' ⟨v5, v12, v13, v14, m15_, ha, Q_HB, Q_R5, Q_R12, Q_R13, Q_R14, Q_X15_⟩ hb_ hon hoff
      refine ⟨_, rfl, fun K hK => ?_⟩
      have e46 : a.tmps[46]? = some (.int .i64 (6 + (m.data.length : Int))) := by rw [ha]; exact putSel_on (e := (3, 46, .int .i64 (6 + (m.data.length : Int)))) 2 rfl rfl (hon 3 (by kernel_rfl)) rfl
      replace ha := Aside0.mk ha
      have HB := Aside0.mk Q_HB
      have wl : IntKind.u8.wrap (6 + (m.data.length : Int)) = ((m.data.length : Int) + 6) % 256 := by first | (rw [IntKind.wrap_u8]; done) | (rw [IntKind.wrap_u8]; congr 1; omega)
      refine value_ (w1 := w') (v := .int .u8 (((m.data.length : Int) + 6) % 256)) (by rfl) rfl ?_ ?_
      · go_simp
        (try simp only [i64_w])
        try rfl
      refine hK.out _ _ ⟨v5, v12, v13, v14, m15_, (by rw [ha.out]; exact putSel_upk 3 hb_ rfl rfl rfl), Q_HB, fun h0_ _ => absurd ((hoff 5 (by kernel_rfl)).symm.trans h0_) (by decide), Q_R12, Q_R13, fun h0_ => absurd ((hoff 14 (by kernel_rfl)).symm.trans h0_) (by decide), fun h0_ => absurd ((hoff 15 (by kernel_rfl)).symm.trans h0_) (by decide)⟩
    refine steps_cons ?_ ?_
    · rintro b a w' ⟨v5, v12, v13, v14, m15_, ha, Q_HB, Q_R5, Q_R12, Q_R13, Q_R14, Q_X15_⟩ hb_ hon hoff
      refine ⟨_, rfl, fun K hK => ?_⟩
      have e47 : a.tmps[47]? = some (.int .u8 (((m.data.length : Int) + 6) % 256)) := by rw [ha]; exact putSel_on (e := (4, 47, .int .u8 (((m.data.length : Int) + 6) % 256))) 3 rfl rfl (hon 4 (by kernel_rfl)) rfl
      replace ha := Aside0.mk ha
      have HB := Aside0.mk Q_HB
      refine Kd.R_lit_step (Kd.int .u8) (w0 := (w.alloc (.cells cx 30 (0, 0))).drew) (w.alloc (.cells cx 30 (0, 0))).drew.heap.size 5 (by rfl) (N := 48) rfl (xs := [((m.data.length : Int) + 6) % 256]) (inner := [.int .u8 (((m.data.length : Int) + 6) % 256)]) (ok := fun _ => True) (okp := fun _ => True) ?hr (Reps.one (show Kd.M (Kd.int .u8) _ _ _ (((m.data.length : Int) + 6) % 256) [.int .u8 (((m.data.length : Int) + 6) % 256)] from rfl) (Reps.none _ _)) (fun _ hk => hk) trivial HB.out HB.out.size (by simp) ?_
      case hr => first | (go_simp; done) | (go_simp; rfl)
      intro nv_ w2 hR_ hB_ hg_ hn_
      have z_R12 := fun (h0_ : b 12 = true) (h1_ : b 13 = false) => (show Kd.R (Kd.int .u16) 24 w2 (w.alloc (.cells cx 30 (0, 0))).drew.heap.size (fun _ => True) v12 ([m.status, m.events, m.messages]) from Kd.R_grown (Q_R12 h0_ h1_) hg_ (fun _ _ => by simp))
      have z_R13 := fun (h0_ : b 13 = true) (h1_ : b 14 = false) => (show Kd.R (Kd.int .u8) 5 w2 (w.alloc (.cells cx 30 (0, 0))).drew.heap.size (fun _ => True) v13 (putL [m.status, m.events, m.messages]) from Kd.R_grown (Q_R13 h0_ h1_) hg_ (fun _ _ => by simp))
      have z_R14 := fun (h0_ : b 14 = true) => (show Kd.R (Kd.int .u8) 5 w2 (w.alloc (.cells cx 30 (0, 0))).drew.heap.size (fun _ => True) v14 ([((m.data.length : Int) + 6) % 256] ++ putL [m.status, m.events, m.messages]) from Kd.R_grown (Q_R14 h0_) hg_ (fun _ _ => by simp))
      refine hK.out _ _ ⟨nv_, v12, v13, v14, m15_, (by rw [ha.out]; exact putSel_upk 4 hb_ rfl rfl rfl), hB_, fun _ _ => hR_, z_R12, z_R13, fun h0_ => absurd ((hoff 14 (by kernel_rfl)).symm.trans h0_) (by decide), fun h0_ => absurd ((hoff 15 (by kernel_rfl)).symm.trans h0_) (by decide)⟩
    refine steps_cons ?_ ?_
    · rintro b a w' ⟨v5, v12, v13, v14, m15_, ha, Q_HB, Q_R5, Q_R12, Q_R13, Q_R14, Q_X15_⟩ hb_ hon hoff
      refine ⟨_, rfl, fun K hK => ?_⟩
      have e49 : a.tmps[49]? = some (.pointer (some ⟨w.heap.size, 9, none⟩)) := by rw [ha]; exact (putSel_off rfl).trans rfl
      replace ha := Aside0.mk ha
      have HB := Aside0.mk Q_HB
      have hs7_ : w'.cell? ⟨w.heap.size, 9, none⟩ = some (.int .u16 m.status) := (HB.out.cell (World.block_lt_of_cell? _ _ KS.out)).trans KS.out
      refine value_ (w1 := w') (v := .int .u16 m.status) (by rfl) rfl ?_ ?_
      · go_simp
        (try simp only [i64_w])
        try rfl
      refine hK.out _ _ ⟨v5, v12, v13, v14, m15_, (by rw [ha.out]; exact putSel_upk 5 hb_ rfl rfl rfl), Q_HB, Q_R5, fun h0_ _ => absurd ((hoff 12 (by kernel_rfl)).symm.trans h0_) (by decide), fun h0_ _ => absurd ((hoff 13 (by kernel_rfl)).symm.trans h0_) (by decide), fun h0_ => absurd ((hoff 14 (by kernel_rfl)).symm.trans h0_) (by decide), fun h0_ => absurd ((hoff 15 (by kernel_rfl)).symm.trans h0_) (by decide)⟩
    refine steps_cons ?_ ?_
    · rintro b a w' ⟨v5, v12, v13, v14, m15_, ha, Q_HB, Q_R5, Q_R12, Q_R13, Q_R14, Q_X15_⟩ hb_ hon hoff
      refine ⟨_, rfl, fun K hK => ?_⟩
      have e51 : a.tmps[51]? = some (.pointer (some ⟨w.heap.size, 10, none⟩)) := by rw [ha]; exact (putSel_off rfl).trans rfl
      replace ha := Aside0.mk ha
      have HB := Aside0.mk Q_HB
      have hs9_ : w'.cell? ⟨w.heap.size, 10, none⟩ = some (.int .u16 m.events) := (HB.out.cell (World.block_lt_of_cell? _ _ KE.out)).trans KE.out
      refine value_ (w1 := w') (v := .int .u16 m.events) (by rfl) rfl ?_ ?_
      · go_simp
        (try simp only [i64_w])
        try rfl
      refine hK.out _ _ ⟨v5, v12, v13, v14, m15_, (by rw [ha.out]; exact putSel_upk 6 hb_ rfl rfl rfl), Q_HB, Q_R5, fun h0_ _ => absurd ((hoff 12 (by kernel_rfl)).symm.trans h0_) (by decide), fun h0_ _ => absurd ((hoff 13 (by kernel_rfl)).symm.trans h0_) (by decide), fun h0_ => absurd ((hoff 14 (by kernel_rfl)).symm.trans h0_) (by decide), fun h0_ => absurd ((hoff 15 (by kernel_rfl)).symm.trans h0_) (by decide)⟩
    refine steps_cons ?_ ?_
    · rintro b a w' ⟨v5, v12, v13, v14, m15_, ha, Q_HB, Q_R5, Q_R12, Q_R13, Q_R14, Q_X15_⟩ hb_ hon hoff
      refine ⟨_, rfl, fun K hK => ?_⟩
      have e53 : a.tmps[53]? = some (.pointer (some ⟨w.heap.size, 11, none⟩)) := by rw [ha]; exact (putSel_off rfl).trans rfl
      replace ha := Aside0.mk ha
      have HB := Aside0.mk Q_HB
      have hs11_ : w'.cell? ⟨w.heap.size, 11, none⟩ = some (.int .u16 m.messages) := (HB.out.cell (World.block_lt_of_cell? _ _ KG.out)).trans KG.out
      refine value_ (w1 := w') (v := .int .u16 m.messages) (by rfl) rfl ?_ ?_
      · go_simp
        (try simp only [i64_w])
        try rfl
      refine hK.out _ _ ⟨v5, v12, v13, v14, m15_, (by rw [ha.out]; exact putSel_upk 7 hb_ rfl rfl rfl), Q_HB, Q_R5, fun h0_ _ => absurd ((hoff 12 (by kernel_rfl)).symm.trans h0_) (by decide), fun h0_ _ => absurd ((hoff 13 (by kernel_rfl)).symm.trans h0_) (by decide), fun h0_ => absurd ((hoff 14 (by kernel_rfl)).symm.trans h0_) (by decide), fun h0_ => absurd ((hoff 15 (by kernel_rfl)).symm.trans h0_) (by decide)⟩
    refine steps_cons ?_ ?_
    · rintro b a w' ⟨v5, v12, v13, v14, m15_, ha, Q_HB, Q_R5, Q_R12, Q_R13, Q_R14, Q_X15_⟩ hb_ hon hoff
      refine ⟨_, rfl, fun K hK => ?_⟩
      have e50 : a.tmps[50]? = some (.int .u16 m.status) := by rw [ha]; exact putSel_on (e := (7, 50, .int .u16 m.status)) 5 rfl rfl (hon 7 (by kernel_rfl)) rfl
      have e52 : a.tmps[52]? = some (.int .u16 m.events) := by rw [ha]; exact putSel_on (e := (9, 52, .int .u16 m.events)) 6 rfl rfl (hon 9 (by kernel_rfl)) rfl
      have e54 : a.tmps[54]? = some (.int .u16 m.messages) := by rw [ha]; exact putSel_on (e := (11, 54, .int .u16 m.messages)) 7 rfl rfl (hon 11 (by kernel_rfl)) rfl
      replace ha := Aside0.mk ha
      have HB := Aside0.mk Q_HB
      refine Kd.R_lit_step (Kd.int .u16) (w0 := (w.alloc (.cells cx 30 (0, 0))).drew) (w.alloc (.cells cx 30 (0, 0))).drew.heap.size 24 (by rfl) (N := 55) rfl (xs := [m.status, m.events, m.messages]) (inner := [.int .u16 (m.status), .int .u16 (m.events), .int .u16 (m.messages)]) (ok := fun _ => True) (okp := fun _ => True) ?hr (Reps.one (show Kd.M (Kd.int .u16) _ _ _ (m.status) [.int .u16 (m.status)] from rfl) (Reps.one (show Kd.M (Kd.int .u16) _ _ _ (m.events) [.int .u16 (m.events)] from rfl) (Reps.one (show Kd.M (Kd.int .u16) _ _ _ (m.messages) [.int .u16 (m.messages)] from rfl) (Reps.none _ _)))) (fun _ hk => hk) trivial HB.out HB.out.size (by simp) ?_
      case hr => first | (go_simp; done) | (go_simp; rfl)
      intro nv_ w2 hR_ hB_ hg_ hn_
      have z_R5 := fun (h0_ : b 5 = true) (h1_ : b 14 = false) => (show Kd.R (Kd.int .u8) 5 w2 (w.alloc (.cells cx 30 (0, 0))).drew.heap.size (fun _ => True) v5 ([((m.data.length : Int) + 6) % 256]) from Kd.R_grown (Q_R5 h0_ h1_) hg_ (fun _ _ => by simp))
      have z_R13 := fun (h0_ : b 13 = true) (h1_ : b 14 = false) => (show Kd.R (Kd.int .u8) 5 w2 (w.alloc (.cells cx 30 (0, 0))).drew.heap.size (fun _ => True) v13 (putL [m.status, m.events, m.messages]) from Kd.R_grown (Q_R13 h0_ h1_) hg_ (fun _ _ => by simp))
      have z_R14 := fun (h0_ : b 14 = true) => (show Kd.R (Kd.int .u8) 5 w2 (w.alloc (.cells cx 30 (0, 0))).drew.heap.size (fun _ => True) v14 ([((m.data.length : Int) + 6) % 256] ++ putL [m.status, m.events, m.messages]) from Kd.R_grown (Q_R14 h0_) hg_ (fun _ _ => by simp))
      refine hK.out _ _ ⟨v5, nv_, v13, v14, m15_, (by rw [ha.out]; exact putSel_upk 8 hb_ rfl rfl rfl), hB_, z_R5, fun _ _ => hR_, fun h0_ _ => absurd ((hoff 13 (by kernel_rfl)).symm.trans h0_) (by decide), fun h0_ => absurd ((hoff 14 (by kernel_rfl)).symm.trans h0_) (by decide), fun h0_ => absurd ((hoff 15 (by kernel_rfl)).symm.trans h0_) (by decide)⟩
    refine steps_cons ?_ ?_
    · rintro b a w' ⟨v5, v12, v13, v14, m15_, ha, Q_HB, Q_R5, Q_R12, Q_R13, Q_R14, Q_X15_⟩ hb_ hon hoff
      refine ⟨_, rfl, fun K hK => ?_⟩
      have e55 : a.tmps[55]? = some (v12) := by rw [ha]; exact putSel_on (e := (12, 55, v12)) 8 rfl rfl (hon 12 (by kernel_rfl)) rfl
      replace ha := Aside0.mk ha
      have HB := Aside0.mk Q_HB
      have R12 := Aside0.mk (Q_R12 (hon 12 (by kernel_rfl)) hb_)
      obtain ⟨A_, c_, ev_, hc_, hr_⟩ := Kd.R_reads R12.out
      rw [ev_] at e55
      refine goes_ Try.func49 (by kernel_rfl) rfl #[.slice A_ ([m.status, m.events, m.messages]).length c_] (by rfl) rfl rfl (by first | (simp only [List.map_toArray, List.map_cons, List.map_nil, Act.eval, Array.getD_eq_getD_getElem?, Option.getD_some, e55]; done) | (simp only [List.map_toArray, List.map_cons, List.map_nil, Act.eval, Array.getD_eq_getD_getElem?, Option.getD_some, e55]; rfl)) ?_
      with_reducible refine (put_r (ws := [m.status, m.events, m.messages]) rfl (is16_3 HA.out.2.2.1 HA.out.2.2.2.1 HA.out.2.2.2.2) (by simp) hr_ hc_).mono ?_
      rintro en w2 ⟨nv_, rfl, hR_, hB_⟩
      refine ⟨_, rfl, ?_⟩
      have z_R5 := fun (h0_ : b 5 = true) (h1_ : b 14 = false) => (show Kd.R (Kd.int .u8) 5 w2 (w.alloc (.cells cx 30 (0, 0))).drew.heap.size (fun _ => True) v5 ([((m.data.length : Int) + 6) % 256]) from Kd.R_below (Q_R5 h0_ h1_) hB_)
      have z_R14 := fun (h0_ : b 14 = true) => (show Kd.R (Kd.int .u8) 5 w2 (w.alloc (.cells cx 30 (0, 0))).drew.heap.size (fun _ => True) v14 ([((m.data.length : Int) + 6) % 256] ++ putL [m.status, m.events, m.messages]) from Kd.R_below (Q_R14 h0_) hB_)
      refine hK.out _ _ ⟨v5, v12, nv_, v14, m15_, (by rw [ha.out]; exact putSel_upk 9 hb_ rfl rfl rfl), HB.out.trans (hB_.mono HB.out.size), z_R5, fun _ h1_ => absurd ((up_self b 13).symm.trans h1_) (by decide), fun _ _ => Kd.R_lower hR_ HB.out.size, fun h0_ => absurd ((hoff 14 (by kernel_rfl)).symm.trans h0_) (by decide), fun h0_ => absurd ((hoff 15 (by kernel_rfl)).symm.trans h0_) (by decide)⟩
    refine steps_cons ?_ ?_
    · rintro b a w' ⟨v5, v12, v13, v14, m15_, ha, Q_HB, Q_R5, Q_R12, Q_R13, Q_R14, Q_X15_⟩ hb_ hon hoff
      refine ⟨_, rfl, fun K hK => ?_⟩
      have e48 : a.tmps[48]? = some (v5) := by rw [ha]; exact putSel_on (e := (5, 48, v5)) 4 rfl rfl (hon 5 (by kernel_rfl)) rfl
      have e56 : a.tmps[56]? = some (v13) := by rw [ha]; exact putSel_on (e := (13, 56, v13)) 9 rfl rfl (hon 13 (by kernel_rfl)) rfl
      replace ha := Aside0.mk ha
      have HB := Aside0.mk Q_HB
      have R5 := Aside0.mk (Q_R5 (hon 5 (by kernel_rfl)) hb_)
      have R13 := Aside0.mk (Q_R13 (hon 13 (by kernel_rfl)) hb_)
      obtain ⟨A_, c_, ev_, hc_, hr_⟩ := Kd.R_reads R13.out
      have HX_ : a.eval (.tmp 56) = .slice A_ (putL [m.status, m.events, m.messages]).length c_ := by rw [← ev_]; exact (by simp only [Act.eval, Array.getD_eq_getD_getElem?, Option.getD_some, e56])
      refine Kd.R_append_rows_step (Kd.int .u8) (w0 := (w.alloc (.cells cx 30 (0, 0))).drew) (w.alloc (.cells cx 30 (0, 0))).drew.heap.size (by rfl) (.tmp 48) (.tmp 56) 22 5 (.int .u8 0) 1 rfl Try.underlying22 (by kernel_rfl) rfl (by decide) (by decide) v5 ([((m.data.length : Int) + 6) % 256]) (putL [m.status, m.events, m.messages]) A_ ((putL [m.status, m.events, m.messages]).length) c_ (fun _ => True) (fun _ => False) (by simp only [Act.eval, Array.getD_eq_getD_getElem?, Option.getD_some, e48]) HX_ R5.out hr_ (fun _ _ h => h) (fun _ h => h.elim) (fun _ _ => trivial) HB.out HB.out.size (by rw [putL_length]; simp only [List.length_cons, List.length_nil]; omega) ?_
      intro nv_ w2 hR_ hB_ hg_ hat_
      refine hK.out _ _ ⟨v5, v12, v13, nv_, m15_, (by rw [ha.out]; exact putSel_upk 10 hb_ rfl rfl rfl), hB_, fun _ h1_ => absurd ((up_self b 14).symm.trans h1_) (by decide), fun _ h1_ => absurd ((hon 13 (by kernel_rfl)).symm.trans h1_) (by decide), fun _ h1_ => absurd ((up_self b 14).symm.trans h1_) (by decide), fun _ => hR_, fun h0_ => absurd ((hoff 15 (by kernel_rfl)).symm.trans h0_) (by decide)⟩
    refine steps_cons ?_ ?_
    · rintro b a w' ⟨v5, v12, v13, v14, m15_, ha, Q_HB, Q_R5, Q_R12, Q_R13, Q_R14, Q_X15_⟩ hb_ hon hoff
      refine ⟨_, rfl, fun K hK => ?_⟩
      have e57 : a.tmps[57]? = some (v14) := by rw [ha]; exact putSel_on (e := (14, 57, v14)) 10 rfl rfl (hon 14 (by kernel_rfl)) rfl
      replace ha := Aside0.mk ha
      have HB := Aside0.mk Q_HB
      have R14 := Aside0.mk (Q_R14 (hon 14 (by kernel_rfl)))
      refine value_ (w1 := w') (v := v14) (by rfl) rfl ?_ ?_
      · go_simp
        (try simp only [i64_w])
        try rfl
      refine hK.out _ _ ⟨v5, v12, v13, v14, (v14), (by rw [ha.out]; exact putSel_upk 11 hb_ rfl rfl rfl), Q_HB, fun _ h1_ => absurd ((hon 14 (by kernel_rfl)).symm.trans h1_) (by decide), fun _ h1_ => absurd ((hon 13 (by kernel_rfl)).symm.trans h1_) (by decide), fun _ h1_ => absurd ((hon 14 (by kernel_rfl)).symm.trans h1_) (by decide), Q_R14, fun _ => rfl⟩
    exact steps_nil
  rintro b a w2 hall ⟨v5, v12, v13, v14, m15_, ha, Q_HB, Q_R5, Q_R12, Q_R13, Q_R14, Q_X15_⟩
  clear HB
  have hb1_ := hall 1 (by kernel_rfl)
  have hb2_ := hall 2 (by kernel_rfl)
  have hb3_ := hall 3 (by kernel_rfl)
  have hb4_ := hall 4 (by kernel_rfl)
  have hb5_ := hall 5 (by kernel_rfl)
  have hb7_ := hall 7 (by kernel_rfl)
  have hb9_ := hall 9 (by kernel_rfl)
  have hb11_ := hall 11 (by kernel_rfl)
  have hb12_ := hall 12 (by kernel_rfl)
  have hb13_ := hall 13 (by kernel_rfl)
  have hb14_ := hall 14 (by kernel_rfl)
  have hb15_ := hall 15 (by kernel_rfl)
  subst ha
  obtain rfl := Q_X15_ hb15_
  simp only [putSel, hb1_, hb2_, hb3_, hb4_, hb5_, hb7_, hb9_, hb11_, hb12_, hb13_, hb14_, hb15_, if_true, Act.put, List.setIfInBounds_toArray, List.set_cons_zero, List.set_cons_succ]
  have HB := Aside0.mk Q_HB
  clear Q_HB
  clear Q_R5
  clear Q_R12
  clear Q_R13
  have R14 := Aside0.mk (Q_R14 hb14_)
  clear Q_R14
  clear hall hb1_ hb2_ hb3_ hb4_ hb5_ hb7_ hb9_ hb11_ hb12_ hb13_ hb14_ hb15_
  have n0_ := Aside0.mk H.out.dr
  clear H
  have H := n0_
  clear n0_
  have kd2 : w2.cell? ⟨w.heap.size, 14, none⟩ = some (.slice A14 m.data.length c14) := (HB.out.cell (World.block_lt_of_cell? _ _ KD.out)).trans KD.out
  have B14 := HB
  clear HB KD KS KE KG
  obtain ⟨A7, c7, rfl, hz7, hr7⟩ := Kd.R_reads R14.out
  clear hz7 hr7
  have hl7 : ([((m.data.length : Int) + 6) % 256] ++ putL [m.status, m.events, m.messages]).length ≤ 7 := by rw [List.length_append, putL_length]; simp only [List.length_cons, List.length_nil]; omega
  go_wp2_with (first | ((with_reducible refine gate_builtin (b := .append) (xs := #[.tmp 58, .tmp 60]) rfl ?_); at_builtin; (try (refine gate_guard (by rfl) ?_; dsimp only)); refine Com.ev_app .u8 5 (.tmp 58) (.tmp 60) 22 1 rfl rfl Try.underlying22 (by kernel_rfl) (by decide) (by decide) rfl rfl R14.out (Kd.C_below (RDD.out) B14.out) B14.out (by first | omega | (simp; omega)) (zs := logged m.status m.events m.messages m.data) (n := (logged m.status m.events m.messages m.data).length) (by first | rfl | simp) (by first | rfl | simp) ?_; intro v1_ Ax nx wap e1_ hR_ hC_ hz_ hb_; have Zx := Aside0.mk hz_; have n0_ := Aside0.mk ((H.out.on hb_).add (sta_C _ _ _ _) (hC_)); clear H; have H := n0_; clear n0_; clear e1_ hR_ hC_ hz_ hb_ R14 B14))
  go_ret
  exact ⟨Ax, nx, rfl, Zx.out, H.out.f.2, H.out.b⟩
theorem lay_17 {dir : Int} {m : Msg} {cx : Array Value} {w : World} (hm : IsMsg w cx m) (hdl : m.data.length ≤ 900000) (hw : m.words.length ≤ 900000) (hd : dir ≠ 0) (hk : m.code ≠ 8 ∧ m.code ≠ 7 ∧ m.code ≠ 11 ∧ m.code ≠ 12) :
    Calls Try.prog 35 #[.int .i64 dir, .agg cx] w fun en w' => ∃ A c, en = .returned (.slice A (lay dir m).length c) ∧ (lay dir m).length ≤ c ∧ Kd.C (Kd.int .u8) w' A (lay dir m).length (lay dir m) ∧ Below w.heap.size w w' := by
  obtain ⟨⟨a0, a1, a2, a3, a4, a5, a6, a7, a8, a9, a10, a11, _⟩, adt, _⟩ := goodM_num hm.good
  have hws : is16 m.words := hm.good.2.1
  have H := Aside0.mk (Hd.start w)
  have hsz := hm.size
  have hix := msg_info hsz
  have n0_ := Aside0.mk ((((H.out.on (below_alloc (Below.refl _ _) (Obj.cells cx 30)))).add (sta_blk _ _) (blk_new _ _)).add (sta_msg _ _) (hm.on (below_alloc (Below.refl _ _) _)))
  clear H
  have H := n0_
  clear n0_
  have b8 : (m.code == 8) = false := beq_eq_false_iff_ne.2 (by omega)
  have b7 : (m.code == 7) = false := beq_eq_false_iff_ne.2 (by omega)
  have b11 : (m.code == 11) = false := beq_eq_false_iff_ne.2 (by omega)
  have b12 : (m.code == 12) = false := beq_eq_false_iff_ne.2 (by omega)
  have bd : (dir == 0) = false := beq_eq_false_iff_ne.2 hd
  have kcode := bx_code H.out.f.1.2 H.out.f.2
  rw [show lay dir m = counted m.data from by unfold lay; rw [if_neg (by omega), if_neg hd, if_neg (by omega), if_neg (by omega), if_neg (by omega)]]
  obtain ⟨A12, c12, A13, c13, A14, c14, A15, c15, A21, c21, ⟨l12, _, l14, _, _⟩, ⟨r12, q12⟩, _, ⟨r14, q14⟩, _, _⟩ := IsMsg.lists H.out.f.2
  have kd := (blk_cell H.out.f.1.2 14).trans l14
  have RD := Aside0.mk r14
  have QD := Aside0.mk q14
  clear l12 r12 q12 l14 r14 q14
  have wl : IntKind.u8.wrap (m.data.length : Int) = (m.data.length : Int) % 256 := by rw [IntKind.wrap_u8]
  have HA := Aside0.mk (And.intro a4 (And.intro a8 (And.intro a9 (And.intro a10 a11))))
  have HWS := Aside0.mk hws
  have HWL := Aside0.mk hw
  have HDL := Aside0.mk hdl
  clear a0 a1 a2 a3 a4 a5 a6 a7 a8 a9 a10 a11 adt hws hm
  clear hk
  clear hd
  go_enter Try.func35, Try.ntmps35
  go_wp2_with (first | ((with_reducible refine gate_dst (N := 66) rfl ?_); (try (refine gate_guard (by rfl) ?_; dsimp only)); refine Com.ev_rlit .u8 [(m.data.length : Int) % 256] 5 rfl rfl (by first | (go_simp; done) | (go_simp; rfl)) (by simp) ?_; intro v wr hr_ hb_; have Rv := Aside0.mk hr_; have Bv := Aside0.mk hb_; clear hr_ hb_; have n0_ := (Bv.out.cell (World.block_lt_of_cell? _ _ kd)).trans kd; clear kd; have kd := n0_; clear n0_) | ((with_reducible refine gate_builtin (b := .append) (xs := #[.tmp 66, .tmp 68]) rfl ?_); at_builtin; (try (refine gate_guard (by rfl) ?_; dsimp only)); refine Com.ev_app .u8 5 (.tmp 66) (.tmp 68) 22 1 rfl rfl Try.underlying22 (by kernel_rfl) (by decide) (by decide) rfl rfl Rv.out (Kd.C_below (RD.out) Bv.out) Bv.out (by first | omega | (simp; omega)) (zs := counted m.data) (n := (counted m.data).length) (by first | rfl | simp) (by first | rfl | simp) ?_; intro v1_ Ax nx wap e1_ hR_ hC_ hz_ hb_; have Zx := Aside0.mk hz_; have n0_ := Aside0.mk ((H.out.on hb_).add (sta_C _ _ _ _) (hC_)); clear H; have H := n0_; clear n0_; clear e1_ hR_ hC_ hz_ hb_ Rv Bv))
  go_ret
  exact ⟨Ax, nx, rfl, Zx.out, H.out.f.2, H.out.b⟩
theorem lay_any {dir : Int} {m : Msg} (hd : m.data.length ≤ 900000) (hb : m.words.length ≤ 900000) : LayC 35 dir m (lay dir m) := by
  intro cx W hm
  by_cases h8 : m.code = 8
  · exact lay_8 hm hd hb h8
  by_cases h0 : dir = 0
  · exact lay_0 hm hd hb h8 h0
  by_cases h7 : m.code = 7
  · exact lay_7 hm hd hb h0 h7
  by_cases h11 : m.code = 11
  · exact lay_11 hm hd hb h0 h11
  by_cases h12 : m.code = 12
  · exact lay_12 hm hd hb h0 h12
  exact lay_17 hm hd hb h0 ⟨h8, h7, h11, h12⟩
theorem rlay_8 {dir : Int} {m : Msg} {cx : Array Value} {w : World} (hm : IsMsg w cx m) (hdl : m.data.length ≤ 900000) (hw : m.words.length ≤ 900000) (hk : m.code = 8) :
    Calls Try.prog 37 #[.int .i64 dir, .agg cx] w fun en w' => ∃ A c, en = .returned (.slice A (lay dir m).length c) ∧ (lay dir m).length ≤ c ∧ Kd.C (Kd.int .u8) w' A (lay dir m).length (lay dir m) ∧ Below w.heap.size w w' := by
  obtain ⟨⟨a0, a1, a2, a3, a4, a5, a6, a7, a8, a9, a10, a11, _⟩, adt, _⟩ := goodM_num hm.good
  have hws : is16 m.words := hm.good.2.1
  have H := Aside0.mk (Hd.start w)
  have hsz := hm.size
  have hix := msg_info hsz
  have n0_ := Aside0.mk ((((H.out.on (below_alloc (Below.refl _ _) (Obj.cells cx 30)))).add (sta_blk _ _) (blk_new _ _)).add (sta_msg _ _) (hm.on (below_alloc (Below.refl _ _) _)))
  clear H
  have H := n0_
  clear n0_
  have b8 : (m.code == 8) = true := beq_iff_eq.2 hk
  have b7 : (m.code == 7) = false := beq_eq_false_iff_ne.2 (by omega)
  have b11 : (m.code == 11) = false := beq_eq_false_iff_ne.2 (by omega)
  have b12 : (m.code == 12) = false := beq_eq_false_iff_ne.2 (by omega)
  have kcode := bx_code H.out.f.1.2 H.out.f.2
  rw [show lay dir m = putL (m.sub :: m.words) from by unfold lay; rw [if_pos hk]]
  obtain ⟨A12, c12, A13, c13, A14, c14, A15, c15, A21, c21, ⟨l12, _, l14, _, _⟩, ⟨r12, q12⟩, _, ⟨r14, q14⟩, _, _⟩ := IsMsg.lists H.out.f.2
  have ksub := bx_sub H.out.f.1.2 H.out.f.2
  have kw := (blk_cell H.out.f.1.2 12).trans l12
  have RW_ := Aside0.mk r12
  have QW := Aside0.mk q12
  clear l12 r12 q12 l14 r14 q14
  have HA := Aside0.mk (And.intro a4 (And.intro a8 (And.intro a9 (And.intro a10 a11))))
  have HWS := Aside0.mk hws
  have HWL := Aside0.mk hw
  have HDL := Aside0.mk hdl
  clear a0 a1 a2 a3 a4 a5 a6 a7 a8 a9 a10 a11 adt hws hm
  clear hk
  go_enter Try.func37, Try.ntmps37
  go_wp2_with (first | ((with_reducible refine gate_dst (N := 11) rfl ?_); (try (refine gate_guard (by rfl) ?_; dsimp only)); refine Com.ev_rlit .u16 [m.sub] 24 rfl rfl (by first | (go_simp; done) | (go_simp; rfl)) (by simp) ?_; intro v wr hr_ hb_; have Rv := Aside0.mk hr_; have Bv := Aside0.mk hb_; clear hr_ hb_; have n0_ := (Bv.out.cell (World.block_lt_of_cell? _ _ kw)).trans kw; clear kw; have kw := n0_; clear n0_) | ((with_reducible refine gate_builtin (b := .append) (xs := #[.tmp 11, .tmp 13]) rfl ?_); at_builtin; (try (refine gate_guard (by rfl) ?_; dsimp only)); refine Com.ev_app .u16 24 (.tmp 11) (.tmp 13) 25 2 rfl rfl Try.underlying25 (by kernel_rfl) (by decide) (by decide) rfl rfl Rv.out (Kd.C_below (RW_.out) Bv.out) Bv.out (by first | omega | (simp; omega)) (zs := m.sub :: m.words) (n := (m.words.length + 1)) (by first | rfl | simp) (by first | rfl | simp) ?_; intro v1_ Ax nx wap e1_ hR_ hC_ hz_ hb_; have Zx := Aside0.mk hz_; have n0_ := Aside0.mk ((H.out.on hb_).add (sta_C _ _ _ _) (hC_)); clear H; have H := n0_; clear n0_; clear e1_ hR_ hC_ hz_ hb_ Rv Bv) | (go_at_call 57; (with_reducible refine (rput_b (ws := m.sub :: m.words) (n := m.words.length + 1) rfl (is16_cons HA.out.2.1 HWS.out) (by have := HWL.out; simp only [List.length_cons]; omega) H.out.f.2 Zx.out).mono ?_); rintro en wq ⟨Aq, cq, rfl, hz_, hr_, hb_⟩; have n0_ := Aside0.mk ((H.out.on hb_).add (sta_C _ _ _ _) (hr_)); clear H; have H := n0_; clear n0_; have Zq := Aside0.mk hz_; clear hb_ hz_ hr_))
  go_ret
  exact ⟨Aq, cq, rfl, Zq.out, H.out.f.2, H.out.b⟩
theorem rlay_0 {dir : Int} {m : Msg} {cx : Array Value} {w : World} (hm : IsMsg w cx m) (hdl : m.data.length ≤ 900000) (hw : m.words.length ≤ 900000) (hk : m.code ≠ 8) (hd : dir = 0) :
    Calls Try.prog 37 #[.int .i64 dir, .agg cx] w fun en w' => ∃ A c, en = .returned (.slice A (lay dir m).length c) ∧ (lay dir m).length ≤ c ∧ Kd.C (Kd.int .u8) w' A (lay dir m).length (lay dir m) ∧ Below w.heap.size w w' := by
  obtain ⟨⟨a0, a1, a2, a3, a4, a5, a6, a7, a8, a9, a10, a11, _⟩, adt, _⟩ := goodM_num hm.good
  have hws : is16 m.words := hm.good.2.1
  have H := Aside0.mk (Hd.start w)
  have hsz := hm.size
  have hix := msg_info hsz
  have n0_ := Aside0.mk ((((H.out.on (below_alloc (Below.refl _ _) (Obj.cells cx 30)))).add (sta_blk _ _) (blk_new _ _)).add (sta_msg _ _) (hm.on (below_alloc (Below.refl _ _) _)))
  clear H
  have H := n0_
  clear n0_
  have b8 : (m.code == 8) = false := beq_eq_false_iff_ne.2 hk
  have bd : (dir == 0) = true := beq_iff_eq.2 hd
  have kcode := bx_code H.out.f.1.2 H.out.f.2
  rw [show lay dir m = [] from by unfold lay; rw [if_neg hk, if_pos hd]]
  have HA := Aside0.mk (And.intro a4 (And.intro a8 (And.intro a9 (And.intro a10 a11))))
  have HWS := Aside0.mk hws
  have HWL := Aside0.mk hw
  have HDL := Aside0.mk hdl
  clear a0 a1 a2 a3 a4 a5 a6 a7 a8 a9 a10 a11 adt hws hm
  clear hk hd
  go_enter Try.func37, Try.ntmps37
  go_wp2_with (first | (fail))
  go_ret
  exact ⟨none, 0, rfl, Nat.le_refl _, Kd.C_nil _ _, H.out.b⟩
theorem rlay_7 {dir : Int} {m : Msg} {cx : Array Value} {w : World} (hm : IsMsg w cx m) (hdl : m.data.length ≤ 900000) (hw : m.words.length ≤ 900000) (hd : dir ≠ 0) (hk : m.code = 7) :
    Calls Try.prog 37 #[.int .i64 dir, .agg cx] w fun en w' => ∃ A c, en = .returned (.slice A (lay dir m).length c) ∧ (lay dir m).length ≤ c ∧ Kd.C (Kd.int .u8) w' A (lay dir m).length (lay dir m) ∧ Below w.heap.size w w' := by
  obtain ⟨⟨a0, a1, a2, a3, a4, a5, a6, a7, a8, a9, a10, a11, _⟩, adt, _⟩ := goodM_num hm.good
  have hws : is16 m.words := hm.good.2.1
  have H := Aside0.mk (Hd.start w)
  have hsz := hm.size
  have hix := msg_info hsz
  have n0_ := Aside0.mk ((((H.out.on (below_alloc (Below.refl _ _) (Obj.cells cx 30)))).add (sta_blk _ _) (blk_new _ _)).add (sta_msg _ _) (hm.on (below_alloc (Below.refl _ _) _)))
  clear H
  have H := n0_
  clear n0_
  have b8 : (m.code == 8) = false := beq_eq_false_iff_ne.2 (by omega)
  have b7 : (m.code == 7) = true := beq_iff_eq.2 hk
  have b11 : (m.code == 11) = false := beq_eq_false_iff_ne.2 (by omega)
  have b12 : (m.code == 12) = false := beq_eq_false_iff_ne.2 (by omega)
  have bd : (dir == 0) = false := beq_eq_false_iff_ne.2 hd
  have kcode := bx_code H.out.f.1.2 H.out.f.2
  rw [show lay dir m = [m.value % 256] from by unfold lay; rw [if_neg (by omega), if_neg hd, if_pos hk]]
  have kval := bx_value H.out.f.1.2 H.out.f.2
  have wv : IntKind.u8.wrap m.value = m.value % 256 := by rw [IntKind.wrap_u8]
  have HA := Aside0.mk (And.intro a4 (And.intro a8 (And.intro a9 (And.intro a10 a11))))
  have HWS := Aside0.mk hws
  have HWL := Aside0.mk hw
  have HDL := Aside0.mk hdl
  clear a0 a1 a2 a3 a4 a5 a6 a7 a8 a9 a10 a11 adt hws hm
  clear hk
  clear hd
  go_enter Try.func37, Try.ntmps37
  go_wp2_with (first | ((with_reducible refine gate_dst (N := 25) rfl ?_); (try (refine gate_guard (by rfl) ?_; dsimp only)); refine ev_lit .u8 [m.value % 256] 5 rfl (by first | (go_simp; done) | (go_simp; rfl)) (by simp) ?_; intro Al cl wl bl he_ hr_ hz_ hb_; have Zl := Aside0.mk hz_; have El := Aside0.mk he_; have n0_ := Aside0.mk ((H.out.on hb_).add (sta_C _ _ _ _) (hr_)); clear H; have H := n0_; clear n0_; clear hr_ hz_ hb_ he_))
  go_ret
  exact ⟨Al, cl, by rw [El.out]; rfl, by have := Zl.out; rw [El.out] at this; exact this, by have := H.out.f.2; rw [El.out] at this; exact this, H.out.b⟩
theorem rlay_11 {dir : Int} {m : Msg} {cx : Array Value} {w : World} (hm : IsMsg w cx m) (hdl : m.data.length ≤ 900000) (hw : m.words.length ≤ 900000) (hd : dir ≠ 0) (hk : m.code = 11) :
    Calls Try.prog 37 #[.int .i64 dir, .agg cx] w fun en w' => ∃ A c, en = .returned (.slice A (lay dir m).length c) ∧ (lay dir m).length ≤ c ∧ Kd.C (Kd.int .u8) w' A (lay dir m).length (lay dir m) ∧ Below w.heap.size w w' := by
  obtain ⟨⟨a0, a1, a2, a3, a4, a5, a6, a7, a8, a9, a10, a11, _⟩, adt, _⟩ := goodM_num hm.good
  have hws : is16 m.words := hm.good.2.1
  have H := Aside0.mk (Hd.start w)
  have hsz := hm.size
  have hix := msg_info hsz
  have n0_ := Aside0.mk ((((H.out.on (below_alloc (Below.refl _ _) (Obj.cells cx 30)))).add (sta_blk _ _) (blk_new _ _)).add (sta_msg _ _) (hm.on (below_alloc (Below.refl _ _) _)))
  clear H
  have H := n0_
  clear n0_
  have b8 : (m.code == 8) = false := beq_eq_false_iff_ne.2 (by omega)
  have b7 : (m.code == 7) = false := beq_eq_false_iff_ne.2 (by omega)
  have b11 : (m.code == 11) = true := beq_iff_eq.2 hk
  have b12 : (m.code == 12) = false := beq_eq_false_iff_ne.2 (by omega)
  have bd : (dir == 0) = false := beq_eq_false_iff_ne.2 hd
  have kcode := bx_code H.out.f.1.2 H.out.f.2
  rw [show lay dir m = putL [m.status, m.events] from by unfold lay; rw [if_neg (by omega), if_neg hd, if_neg (by omega), if_pos hk]]
  have ks := bx_status H.out.f.1.2 H.out.f.2
  have ke := bx_events H.out.f.1.2 H.out.f.2
  have HA := Aside0.mk (And.intro a4 (And.intro a8 (And.intro a9 (And.intro a10 a11))))
  have HWS := Aside0.mk hws
  have HWL := Aside0.mk hw
  have HDL := Aside0.mk hdl
  clear a0 a1 a2 a3 a4 a5 a6 a7 a8 a9 a10 a11 adt hws hm
  clear hk
  clear hd
  go_enter Try.func37, Try.ntmps37
  go_wp2_with (first | ((with_reducible refine gate_dst (N := 32) rfl ?_); (try (refine gate_guard (by rfl) ?_; dsimp only)); refine ev_lit .u16 [m.status, m.events] 24 rfl (by first | (go_simp; done) | (go_simp; rfl)) (by simp) ?_; intro Al cl wl bl he_ hr_ hz_ hb_; have Zl := Aside0.mk hz_; have El := Aside0.mk he_; have n0_ := Aside0.mk ((H.out.on hb_).add (sta_C _ _ _ _) (hr_)); clear H; have H := n0_; clear n0_; clear hr_ hz_ hb_ he_) | (go_at_call 57; (with_reducible refine (rput_b (ws := bl) rfl (by rw [El.out]; exact is16_2 HA.out.2.2.1 HA.out.2.2.2.1) (by rw [El.out]; simp) H.out.f.2 Zl.out).mono ?_); rintro en wq ⟨Aq, cq, rfl, hz_, hr_, hb_⟩; have n0_ := Aside0.mk ((H.out.on hb_).add (sta_C _ _ _ _) (hr_)); clear H; have H := n0_; clear n0_; have Zq := Aside0.mk hz_; clear hb_ hz_ hr_))
  go_ret
  rw [← El.out]
  exact ⟨Aq, cq, rfl, Zq.out, H.out.f.2, H.out.b⟩
def rlay.T11 : Bool × List (List Nat × List Nat) := (true, [([], []), ([0], [0]), ([1], [1]), ([2], [2]), ([3], [3]), ([4], [4]), ([], []), ([6], [6]), ([], []), ([8], [8]), ([], []), ([10], [10]), ([7, 9, 11], [7, 9, 11]), ([12], [12]), ([5, 13, 13], [5, 13]), ([14, 14, 0, 1, 2, 3, 4, 5, 6, 7, 8, 9, 10, 11, 12, 13, 14], [14])])
def rlay.B11 : List Nat := [0, 1, 3, 7, 15, 31, 0, 64, 0, 256, 0, 1024, 4032, 8128, 16383, 32767]
theorem rlay.tab11 : rtab .any (opsOf Try.f37 11) = rlay.T11 := by kernel_rfl
theorem rlay.bits11 : waitsOk rlay.T11.2 rlay.B11 = true := by kernel_rfl
theorem rlay_12 {dir : Int} {m : Msg} {cx : Array Value} {w : World} (hm : IsMsg w cx m) (hdl : m.data.length ≤ 900000) (hw : m.words.length ≤ 900000) (hd : dir ≠ 0) (hk : m.code = 12) :
    Calls Try.prog 37 #[.int .i64 dir, .agg cx] w fun en w' => ∃ A c, en = .returned (.slice A (lay dir m).length c) ∧ (lay dir m).length ≤ c ∧ Kd.C (Kd.int .u8) w' A (lay dir m).length (lay dir m) ∧ Below w.heap.size w w' := by
  obtain ⟨⟨a0, a1, a2, a3, a4, a5, a6, a7, a8, a9, a10, a11, _⟩, adt, _⟩ := goodM_num hm.good
  have hws : is16 m.words := hm.good.2.1
  have H := Aside0.mk (Hd.start w)
  have hsz := hm.size
  have hix := msg_info hsz
  have n0_ := Aside0.mk ((((H.out.on (below_alloc (Below.refl _ _) (Obj.cells cx 30)))).add (sta_blk _ _) (blk_new _ _)).add (sta_msg _ _) (hm.on (below_alloc (Below.refl _ _) _)))
  clear H
  have H := n0_
  clear n0_
  have b8 : (m.code == 8) = false := beq_eq_false_iff_ne.2 (by omega)
  have b7 : (m.code == 7) = false := beq_eq_false_iff_ne.2 (by omega)
  have b11 : (m.code == 11) = false := beq_eq_false_iff_ne.2 (by omega)
  have b12 : (m.code == 12) = true := beq_iff_eq.2 hk
  have bd : (dir == 0) = false := beq_eq_false_iff_ne.2 hd
  have kcode := bx_code H.out.f.1.2 H.out.f.2
  rw [show lay dir m = logged m.status m.events m.messages m.data from by unfold lay; rw [if_neg (by omega), if_neg hd, if_neg (by omega), if_neg (by omega), if_pos hk]]
  obtain ⟨A12, c12, A13, c13, A14, c14, A15, c15, A21, c21, ⟨l12, _, l14, _, _⟩, ⟨r12, q12⟩, _, ⟨r14, q14⟩, _, _⟩ := IsMsg.lists H.out.f.2
  have kd := (blk_cell H.out.f.1.2 14).trans l14
  have RD := Aside0.mk r14
  have QD := Aside0.mk q14
  clear l12 r12 q12 l14 r14 q14
  have ks := bx_status H.out.f.1.2 H.out.f.2
  have ke := bx_events H.out.f.1.2 H.out.f.2
  have kg := bx_messages H.out.f.1.2 H.out.f.2
  have HA := Aside0.mk (And.intro a4 (And.intro a8 (And.intro a9 (And.intro a10 a11))))
  have HWS := Aside0.mk hws
  have HWL := Aside0.mk hw
  have HDL := Aside0.mk hdl
  clear a0 a1 a2 a3 a4 a5 a6 a7 a8 a9 a10 a11 adt hws hm
  clear hk
  clear hd
  go_enter Try.func37, Try.ntmps37
  go_upto_region 11 with (fail)
  have KD := Aside0.mk (show (w.alloc (.cells cx 30 (0, 0))).drew.cell? ⟨w.heap.size, 14, none⟩ = some (.slice A14 m.data.length c14) from kd)
  have KS := Aside0.mk (show (w.alloc (.cells cx 30 (0, 0))).drew.cell? ⟨w.heap.size, 9, none⟩ = some (.int .u16 m.status) from ks)
  have KE := Aside0.mk (show (w.alloc (.cells cx 30 (0, 0))).drew.cell? ⟨w.heap.size, 10, none⟩ = some (.int .u16 m.events) from ke)
  have KG := Aside0.mk (show (w.alloc (.cells cx 30 (0, 0))).drew.cell? ⟨w.heap.size, 11, none⟩ = some (.int .u16 m.messages) from kg)
  have RDD := Aside0.mk (Kd.C_below RD.out (below_drew (Below.refl _ _)))
  clear kd ks ke kg kcode
  have HB := Aside0.mk (Below.refl (w.alloc (.cells cx 30 (0, 0))).drew.heap.size ((w.alloc (.cells cx 30 (0, 0))).drew))
  refine start_ (n := 16) (S := fun w' => True) (ds := []) #[false, false, false, false, false, false, false, false, false, false, false, false, false, false, false, false] (by kernel_rfl) rfl rfl trivial (fun hHeld => ?_)
  refine with_tabW rlay.tab11 rlay.bits11 (fun HT_ HW_ => ?_)
  refine pure_ (i := 0) (N := some 36) (v := ?_) (a' := ?_) #[true, false, false, false, false, false, false, false, false, false, false, false, false, false, false, false] rfl rfl (any_of HT_.out (by kernel_rfl)) (fun _ _ _ h => h) (Or.inl ⟨by rfl, ?_⟩) ?_ ?_
  rotate_left
  · intro w'
    go_simp
    with_reducible rfl
  rotate_left
  · simp only [Act.put, List.setIfInBounds_toArray, List.set_cons_zero, List.set_cons_succ, i64_w, i32_w]
    rfl
  refine pure_ (i := 6) (N := some 42) (v := ?_) (a' := ?_) #[true, false, false, false, false, false, true, false, false, false, false, false, false, false, false, false] rfl rfl (any_of HT_.out (by kernel_rfl)) (fun _ _ _ h => h) (Or.inl ⟨by rfl, ?_⟩) ?_ ?_
  rotate_left
  · intro w'
    go_simp
    with_reducible rfl
  rotate_left
  · simp only [Act.put, List.setIfInBounds_toArray, List.set_cons_zero, List.set_cons_succ, i64_w, i32_w]
    rfl
  refine pure_ (i := 8) (N := some 44) (v := ?_) (a' := ?_) #[true, false, false, false, false, false, true, false, true, false, false, false, false, false, false, false] rfl rfl (any_of HT_.out (by kernel_rfl)) (fun _ _ _ h => h) (Or.inl ⟨by rfl, ?_⟩) ?_ ?_
  rotate_left
  · intro w'
    go_simp
    with_reducible rfl
  rotate_left
  · simp only [Act.put, List.setIfInBounds_toArray, List.set_cons_zero, List.set_cons_succ, i64_w, i32_w]
    rfl
  refine pure_ (i := 10) (N := some 46) (v := ?_) (a' := ?_) #[true, false, false, false, false, false, true, false, true, false, true, false, false, false, false, false] rfl rfl (any_of HT_.out (by kernel_rfl)) (fun _ _ _ h => h) (Or.inl ⟨by rfl, ?_⟩) ?_ ?_
  rotate_left
  · intro w'
    go_simp
    with_reducible rfl
  rotate_left
  · simp only [Act.put, List.setIfInBounds_toArray, List.set_cons_zero, List.set_cons_succ, i64_w, i32_w]
    rfl
  refine inv_at [1, 2, 3, 4, 5, 7, 9, 11, 12, 13, 14, 15] (fun a0_ b a w' => ∃ (v5 : Value) (v12 : Value) (v13 : Value) (v14 : Value) (m15_ : Value), a = putSel a0_ b [(1, 37, .slice A14 m.data.length c14), (2, 38, .int .i64 (m.data.length : Int)), (3, 39, .int .i64 ((m.data.length : Int) + 6)), (4, 40, .int .u8 (((m.data.length : Int) + 6) % 256)), (5, 41, v5), (7, 43, .int .u16 m.status), (9, 45, .int .u16 m.events), (11, 47, .int .u16 m.messages), (12, 48, v12), (13, 49, v13), (14, 50, v14), (15, 5, m15_)] ∧ (Below (w.alloc (.cells cx 30 (0, 0))).drew.heap.size (w.alloc (.cells cx 30 (0, 0))).drew w') ∧ (b 5 = true → b 14 = false → Kd.R (Kd.int .u8) 5 w' (w.alloc (.cells cx 30 (0, 0))).drew.heap.size (fun _ => True) v5 ([((m.data.length : Int) + 6) % 256])) ∧ (b 12 = true → b 13 = false → Kd.R (Kd.int .u16) 24 w' (w.alloc (.cells cx 30 (0, 0))).drew.heap.size (fun _ => True) v12 ([m.status, m.events, m.messages])) ∧ (b 13 = true → b 14 = false → Kd.R (Kd.int .u8) 5 w' (w.alloc (.cells cx 30 (0, 0))).drew.heap.size (fun _ => True) v13 (putL [m.status, m.events, m.messages])) ∧ (b 14 = true → Kd.R (Kd.int .u8) 5 w' (w.alloc (.cells cx 30 (0, 0))).drew.heap.size (fun _ => True) v14 ([((m.data.length : Int) + 6) % 256] ++ putL [m.status, m.events, m.messages])) ∧ (b 15 = true → (m15_ : Value) = v14)) HT_.out HW_.out (by kernel_rfl) (by kernel_rfl) ?_ ?_ ?_
  · exact ⟨.bool false, .bool false, .bool false, .bool false, .bool false, by simp only [putSel, Bool.false_eq_true, if_false], HB.out, fun h_ => absurd h_ (by decide), fun h_ => absurd h_ (by decide), fun h_ => absurd h_ (by decide), fun h_ => absurd h_ (by decide), fun h_ => absurd h_ (by decide)⟩
  · skip
    clear HB
    refine steps_cons ?_ ?_
    · rintro b a w' ⟨v5, v12, v13, v14, m15_, ha, Q_HB, Q_R5, Q_R12, Q_R13, Q_R14, Q_X15_⟩ hb_ hon hoff
      refine ⟨_, rfl, fun K hK => ?_⟩
      have e36 : a.tmps[36]? = some (.pointer (some ⟨w.heap.size, 14, none⟩)) := by rw [ha]; exact (putSel_off rfl).trans rfl
      replace ha := Aside0.mk ha
      have HB := Aside0.mk Q_HB
      have hs1_ : w'.cell? ⟨w.heap.size, 14, none⟩ = some (.slice A14 m.data.length c14) := (HB.out.cell (World.block_lt_of_cell? _ _ KD.out)).trans KD.out
      refine value_ (w1 := w') (v := .slice A14 m.data.length c14) (by rfl) rfl ?_ ?_
      · go_simp
        (try simp only [i64_w])
        try rfl
      refine hK.out _ _ ⟨v5, v12, v13, v14, m15_, (by rw [ha.out]; exact putSel_upk 0 hb_ rfl rfl rfl), Q_HB, fun h0_ _ => absurd ((hoff 5 (by kernel_rfl)).symm.trans h0_) (by decide), Q_R12, Q_R13, fun h0_ => absurd ((hoff 14 (by kernel_rfl)).symm.trans h0_) (by decide), fun h0_ => absurd ((hoff 15 (by kernel_rfl)).symm.trans h0_) (by decide)⟩
    refine steps_cons ?_ ?_
    · rintro b a w' ⟨v5, v12, v13, v14, m15_, ha, Q_HB, Q_R5, Q_R12, Q_R13, Q_R14, Q_X15_⟩ hb_ hon hoff
      refine ⟨_, rfl, fun K hK => ?_⟩
      have e37 : a.tmps[37]? = some (.slice A14 m.data.length c14) := by rw [ha]; exact putSel_on (e := (1, 37, .slice A14 m.data.length c14)) 0 rfl rfl (hon 1 (by kernel_rfl)) rfl
      replace ha := Aside0.mk ha
      have HB := Aside0.mk Q_HB
      refine value_ (w1 := w') (v := .int .i64 (m.data.length : Int)) (by rfl) rfl ?_ ?_
      · go_simp
        (try simp only [i64_w])
        try rfl
      refine hK.out _ _ ⟨v5, v12, v13, v14, m15_, (by rw [ha.out]; exact putSel_upk 1 hb_ rfl rfl rfl), Q_HB, fun h0_ _ => absurd ((hoff 5 (by kernel_rfl)).symm.trans h0_) (by decide), Q_R12, Q_R13, fun h0_ => absurd ((hoff 14 (by kernel_rfl)).symm.trans h0_) (by decide), fun h0_ => absurd ((hoff 15 (by kernel_rfl)).symm.trans h0_) (by decide)⟩
    refine steps_cons ?_ ?_
    · rintro b a w' ⟨v5, v12, v13, v14, m15_, ha, Q_HB, Q_R5, Q_R12, Q_R13, Q_R14, Q_X15_⟩ hb_ hon hoff
      refine ⟨_, rfl, fun K hK => ?_⟩
      have e38 : a.tmps[38]? = some (.int .i64 (m.data.length : Int)) := by rw [ha]; exact putSel_on (e := (2, 38, .int .i64 (m.data.length : Int))) 1 rfl rfl (hon 2 (by kernel_rfl)) rfl
      replace ha := Aside0.mk ha
      have HB := Aside0.mk Q_HB
      have w6 : wrap64 ((m.data.length : Int) + 6) = (m.data.length : Int) + 6 := wrap64_id (by have := HDL.out; omega) (by have := HDL.out; omega)
      have w6b : IntKind.i64.wrap ((m.data.length : Int) + 6) = (m.data.length : Int) + 6 := by rw [i64_w]; exact w6
      refine value_ (w1 := w') (v := .int .i64 ((m.data.length : Int) + 6)) (by rfl) rfl ?_ ?_
      · go_simp
        (try simp only [i64_w])
        try rfl
      refine hK.out _ _ ⟨v5, v12, v13, v14, m15_, (by rw [ha.out]; exact putSel_upk 2 hb_ rfl rfl rfl), Q_HB, fun h0_ _ => absurd ((hoff 5 (by kernel_rfl)).symm.trans h0_) (by decide), Q_R12, Q_R13, fun h0_ => absurd ((hoff 14 (by kernel_rfl)).symm.trans h0_) (by decide), fun h0_ => absurd ((hoff 15 (by kernel_rfl)).symm.trans h0_) (by decide)⟩
    refine steps_cons ?_ ?_
    · rintro b a w' ⟨v5, v12, v13, v14, m15_, ha, Q_HB, Q_R5, Q_R12, Q_R13, Q_R14, Q_X15_⟩ hb_ hon hoff
      refine ⟨_, rfl, fun K hK => ?_⟩
      have e39 : a.tmps[39]? = some (.int .i64 ((m.data.length : Int) + 6)) := by rw [ha]; exact putSel_on (e := (3, 39, .int .i64 ((m.data.length : Int) + 6))) 2 rfl rfl (hon 3 (by kernel_rfl)) rfl
      replace ha := Aside0.mk ha
      have HB := Aside0.mk Q_HB
      have wl : IntKind.u8.wrap ((m.data.length : Int) + 6) = ((m.data.length : Int) + 6) % 256 := by first | (rw [IntKind.wrap_u8]; done) | (rw [IntKind.wrap_u8]; congr 1; omega)
      refine value_ (w1 := w') (v := .int .u8 (((m.data.length : Int) + 6) % 256)) (by rfl) rfl ?_ ?_
      · go_simp
        (try simp only [i64_w])
        try rfl
      refine hK.out _ _ ⟨v5, v12, v13, v14, m15_, (by rw [ha.out]; exact putSel_upk 3 hb_ rfl rfl rfl), Q_HB, fun h0_ _ => absurd ((hoff 5 (by kernel_rfl)).symm.trans h0_) (by decide), Q_R12, Q_R13, fun h0_ => absurd ((hoff 14 (by kernel_rfl)).symm.trans h0_) (by decide), fun h0_ => absurd ((hoff 15 (by kernel_rfl)).symm.trans h0_) (by decide)⟩
    refine steps_cons ?_ ?_
    · rintro b a w' ⟨v5, v12, v13, v14, m15_, ha, Q_HB, Q_R5, Q_R12, Q_R13, Q_R14, Q_X15_⟩ hb_ hon hoff
      refine ⟨_, rfl, fun K hK => ?_⟩
      have e40 : a.tmps[40]? = some (.int .u8 (((m.data.length : Int) + 6) % 256)) := by rw [ha]; exact putSel_on (e := (4, 40, .int .u8 (((m.data.length : Int) + 6) % 256))) 3 rfl rfl (hon 4 (by kernel_rfl)) rfl
      replace ha := Aside0.mk ha
      have HB := Aside0.mk Q_HB
      refine Kd.R_lit_step (Kd.int .u8) (w0 := (w.alloc (.cells cx 30 (0, 0))).drew) (w.alloc (.cells cx 30 (0, 0))).drew.heap.size 5 (by rfl) (N := 41) rfl (xs := [((m.data.length : Int) + 6) % 256]) (inner := [.int .u8 (((m.data.length : Int) + 6) % 256)]) (ok := fun _ => True) (okp := fun _ => True) ?hr (Reps.one (show Kd.M (Kd.int .u8) _ _ _ (((m.data.length : Int) + 6) % 256) [.int .u8 (((m.data.length : Int) + 6) % 256)] from rfl) (Reps.none _ _)) (fun _ hk => hk) trivial HB.out HB.out.size (by simp) ?_
      case hr => first | (go_simp; done) | (go_simp; rfl)
      intro nv_ w2 hR_ hB_ hg_ hn_
      have z_R12 := fun (h0_ : b 12 = true) (h1_ : b 13 = false) => (show Kd.R (Kd.int .u16) 24 w2 (w.alloc (.cells cx 30 (0, 0))).drew.heap.size (fun _ => True) v12 ([m.status, m.events, m.messages]) from Kd.R_grown (Q_R12 h0_ h1_) hg_ (fun _ _ => by simp))
      have z_R13 := fun (h0_ : b 13 = true) (h1_ : b 14 = false) => (show Kd.R (Kd.int .u8) 5 w2 (w.alloc (.cells cx 30 (0, 0))).drew.heap.size (fun _ => True) v13 (putL [m.status, m.events, m.messages]) from Kd.R_grown (Q_R13 h0_ h1_) hg_ (fun _ _ => by simp))
      have z_R14 := fun (h0_ : b 14 = true) => (show Kd.R (Kd.int .u8) 5 w2 (w.alloc (.cells cx 30 (0, 0))).drew.heap.size (fun _ => True) v14 ([((m.data.length : Int) + 6) % 256] ++ putL [m.status, m.events, m.messages]) from Kd.R_grown (Q_R14 h0_) hg_ (fun _ _ => by simp))
      refine hK.out _ _ ⟨nv_, v12, v13, v14, m15_, (by rw [ha.out]; exact putSel_upk 4 hb_ rfl rfl rfl), hB_, fun _ _ => hR_, z_R12, z_R13, fun h0_ => absurd ((hoff 14 (by kernel_rfl)).symm.trans h0_) (by decide), fun h0_ => absurd ((hoff 15 (by kernel_rfl)).symm.trans h0_) (by decide)⟩
    refine steps_cons ?_ ?_
    · rintro b a w' ⟨v5, v12, v13, v14, m15_, ha, Q_HB, Q_R5, Q_R12, Q_R13, Q_R14, Q_X15_⟩ hb_ hon hoff
      refine ⟨_, rfl, fun K hK => ?_⟩
      have e42 : a.tmps[42]? = some (.pointer (some ⟨w.heap.size, 9, none⟩)) := by rw [ha]; exact (putSel_off rfl).trans rfl
      replace ha := Aside0.mk ha
      have HB := Aside0.mk Q_HB
      have hs7_ : w'.cell? ⟨w.heap.size, 9, none⟩ = some (.int .u16 m.status) := (HB.out.cell (World.block_lt_of_cell? _ _ KS.out)).trans KS.out
      refine value_ (w1 := w') (v := .int .u16 m.status) (by rfl) rfl ?_ ?_
      · go_simp
        (try simp only [i64_w])
        try rfl
      refine hK.out _ _ ⟨v5, v12, v13, v14, m15_, (by rw [ha.out]; exact putSel_upk 5 hb_ rfl rfl rfl), Q_HB, Q_R5, fun h0_ _ => absurd ((hoff 12 (by kernel_rfl)).symm.trans h0_) (by decide), fun h0_ _ => absurd ((hoff 13 (by kernel_rfl)).symm.trans h0_) (by decide), fun h0_ => absurd ((hoff 14 (by kernel_rfl)).symm.trans h0_) (by decide), fun h0_ => absurd ((hoff 15 (by kernel_rfl)).symm.trans h0_) (by decide)⟩
    refine steps_cons ?_ ?_
    · rintro b a w' ⟨v5, v12, v13, v14, m15_, ha, Q_HB, Q_R5, Q_R12, Q_R13, Q_R14, Q_X15_⟩ hb_ hon hoff
      refine ⟨_, rfl, fun K hK => ?_⟩
      have e44 : a.tmps[44]? = some (.pointer (some ⟨w.heap.size, 10, none⟩)) := by rw [ha]; exact (putSel_off rfl).trans rfl
      replace ha := Aside0.mk ha
      have HB := Aside0.mk Q_HB
      have hs9_ : w'.cell? ⟨w.heap.size, 10, none⟩ = some (.int .u16 m.events) := (HB.out.cell (World.block_lt_of_cell? _ _ KE.out)).trans KE.out
      refine value_ (w1 := w') (v := .int .u16 m.events) (by rfl) rfl ?_ ?_
      · go_simp
        (try simp only [i64_w])
        try rfl
      refine hK.out _ _ ⟨v5, v12, v13, v14, m15_, (by rw [ha.out]; exact putSel_upk 6 hb_ rfl rfl rfl), Q_HB, Q_R5, fun h0_ _ => absurd ((hoff 12 (by kernel_rfl)).symm.trans h0_) (by decide), fun h0_ _ => absurd ((hoff 13 (by kernel_rfl)).symm.trans h0_) (by decide), fun h0_ => absurd ((hoff 14 (by kernel_rfl)).symm.trans h0_) (by decide), fun h0_ => absurd ((hoff 15 (by kernel_rfl)).symm.trans h0_) (by decide)⟩
    refine steps_cons ?_ ?_
    · rintro b a w' ⟨v5, v12, v13, v14, m15_, ha, Q_HB, Q_R5, Q_R12, Q_R13, Q_R14, Q_X15_⟩ hb_ hon hoff
      refine ⟨_, rfl, fun K hK => ?_⟩
      have e46 : a.tmps[46]? = some (.pointer (some ⟨w.heap.size, 11, none⟩)) := by rw [ha]; exact (putSel_off rfl).trans rfl
      replace ha := Aside0.mk ha
      have HB := Aside0.mk Q_HB
      have hs11_ : w'.cell? ⟨w.heap.size, 11, none⟩ = some (.int .u16 m.messages) := (HB.out.cell (World.block_lt_of_cell? _ _ KG.out)).trans KG.out
      refine value_ (w1 := w') (v := .int .u16 m.messages) (by rfl) rfl ?_ ?_
      · go_simp
        (try simp only [i64_w])
        try rfl
      refine hK.out _ _ ⟨v5, v12, v13, v14, m15_, (by rw [ha.out]; exact putSel_upk 7 hb_ rfl rfl rfl), Q_HB, Q_R5, fun h0_ _ => absurd ((hoff 12 (by kernel_rfl)).symm.trans h0_) (by decide), fun h0_ _ => absurd ((hoff 13 (by kernel_rfl)).symm.trans h0_) (by decide), fun h0_ => absurd ((hoff 14 (by kernel_rfl)).symm.trans h0_) (by decide), fun h0_ => absurd ((hoff 15 (by kernel_rfl)).symm.trans h0_) (by decide)⟩
    refine steps_cons ?_ ?_
    · rintro b a w' ⟨v5, v12, v13, v14, m15_, ha, Q_HB, Q_R5, Q_R12, Q_R13, Q_R14, Q_X15_⟩ hb_ hon hoff
      refine ⟨_, rfl, fun K hK => ?_⟩
      have e43 : a.tmps[43]? = some (.int .u16 m.status) := by rw [ha]; exact putSel_on (e := (7, 43, .int .u16 m.status)) 5 rfl rfl (hon 7 (by kernel_rfl)) rfl
      have e45 : a.tmps[45]? = some (.int .u16 m.events) := by rw [ha]; exact putSel_on (e := (9, 45, .int .u16 m.events)) 6 rfl rfl (hon 9 (by kernel_rfl)) rfl
      have e47 : a.tmps[47]? = some (.int .u16 m.messages) := by rw [ha]; exact putSel_on (e := (11, 47, .int .u16 m.messages)) 7 rfl rfl (hon 11 (by kernel_rfl)) rfl
      replace ha := Aside0.mk ha
      have HB := Aside0.mk Q_HB
      refine Kd.R_lit_step (Kd.int .u16) (w0 := (w.alloc (.cells cx 30 (0, 0))).drew) (w.alloc (.cells cx 30 (0, 0))).drew.heap.size 24 (by rfl) (N := 48) rfl (xs := [m.status, m.events, m.messages]) (inner := [.int .u16 (m.status), .int .u16 (m.events), .int .u16 (m.messages)]) (ok := fun _ => True) (okp := fun _ => True) ?hr (Reps.one (show Kd.M (Kd.int .u16) _ _ _ (m.status) [.int .u16 (m.status)] from rfl) (Reps.one (show Kd.M (Kd.int .u16) _ _ _ (m.events) [.int .u16 (m.events)] from rfl) (Reps.one (show Kd.M (Kd.int .u16) _ _ _ (m.messages) [.int .u16 (m.messages)] from rfl) (Reps.none _ _)))) (fun _ hk => hk) trivial HB.out HB.out.size (by simp) ?_
      case hr => first | (go_simp; done) | (go_simp; rfl)
      intro nv_ w2 hR_ hB_ hg_ hn_
      have z_R5 := fun (h0_ : b 5 = true) (h1_ : b 14 = false) => (show Kd.R (Kd.int .u8) 5 w2 (w.alloc (.cells cx 30 (0, 0))).drew.heap.size (fun _ => True) v5 ([((m.data.length : Int) + 6) % 256]) from Kd.R_grown (Q_R5 h0_ h1_) hg_ (fun _ _ => by simp))
      have z_R13 := fun (h0_ : b 13 = true) (h1_ : b 14 = false) => (show Kd.R (Kd.int .u8) 5 w2 (w.alloc (.cells cx 30 (0, 0))).drew.heap.size (fun _ => True) v13 (putL [m.status, m.events, m.messages]) from Kd.R_grown (Q_R13 h0_ h1_) hg_ (fun _ _ => by simp))
      have z_R14 := fun (h0_ : b 14 = true) => (show Kd.R (Kd.int .u8) 5 w2 (w.alloc (.cells cx 30 (0, 0))).drew.heap.size (fun _ => True) v14 ([((m.data.length : Int) + 6) % 256] ++ putL [m.status, m.events, m.messages]) from Kd.R_grown (Q_R14 h0_) hg_ (fun _ _ => by simp))
      refine hK.out _ _ ⟨v5, nv_, v13, v14, m15_, (by rw [ha.out]; exact putSel_upk 8 hb_ rfl rfl rfl), hB_, z_R5, fun _ _ => hR_, fun h0_ _ => absurd ((hoff 13 (by kernel_rfl)).symm.trans h0_) (by decide), fun h0_ => absurd ((hoff 14 (by kernel_rfl)).symm.trans h0_) (by decide), fun h0_ => absurd ((hoff 15 (by kernel_rfl)).symm.trans h0_) (by decide)⟩
    refine steps_cons ?_ ?_
    · rintro b a w' ⟨v5, v12, v13, v14, m15_, ha, Q_HB, Q_R5, Q_R12, Q_R13, Q_R14, Q_X15_⟩ hb_ hon hoff
      refine ⟨_, rfl, fun K hK => ?_⟩
      have e48 : a.tmps[48]? = some (v12) := by rw [ha]; exact putSel_on (e := (12, 48, v12)) 8 rfl rfl (hon 12 (by kernel_rfl)) rfl
      replace ha := Aside0.mk ha
      have HB := Aside0.mk Q_HB
      have R12 := Aside0.mk (Q_R12 (hon 12 (by kernel_rfl)) hb_)
      obtain ⟨A_, c_, ev_, hc_, hr_⟩ := Kd.R_reads R12.out
      rw [ev_] at e48
      refine goes_ Try.func57 (by kernel_rfl) rfl #[.slice A_ ([m.status, m.events, m.messages]).length c_] (by rfl) rfl rfl (by first | (simp only [List.map_toArray, List.map_cons, List.map_nil, Act.eval, Array.getD_eq_getD_getElem?, Option.getD_some, e48]; done) | (simp only [List.map_toArray, List.map_cons, List.map_nil, Act.eval, Array.getD_eq_getD_getElem?, Option.getD_some, e48]; rfl)) ?_
      with_reducible refine (rput_r (ws := [m.status, m.events, m.messages]) rfl (is16_3 HA.out.2.2.1 HA.out.2.2.2.1 HA.out.2.2.2.2) (by simp) hr_ hc_).mono ?_
      rintro en w2 ⟨nv_, rfl, hR_, hB_⟩
      refine ⟨_, rfl, ?_⟩
      have z_R5 := fun (h0_ : b 5 = true) (h1_ : b 14 = false) => (show Kd.R (Kd.int .u8) 5 w2 (w.alloc (.cells cx 30 (0, 0))).drew.heap.size (fun _ => True) v5 ([((m.data.length : Int) + 6) % 256]) from Kd.R_below (Q_R5 h0_ h1_) hB_)
      have z_R14 := fun (h0_ : b 14 = true) => (show Kd.R (Kd.int .u8) 5 w2 (w.alloc (.cells cx 30 (0, 0))).drew.heap.size (fun _ => True) v14 ([((m.data.length : Int) + 6) % 256] ++ putL [m.status, m.events, m.messages]) from Kd.R_below (Q_R14 h0_) hB_)
      refine hK.out _ _ ⟨v5, v12, nv_, v14, m15_, (by rw [ha.out]; exact putSel_upk 9 hb_ rfl rfl rfl), HB.out.trans (hB_.mono HB.out.size), z_R5, fun _ h1_ => absurd ((up_self b 13).symm.trans h1_) (by decide), fun _ _ => Kd.R_lower hR_ HB.out.size, fun h0_ => absurd ((hoff 14 (by kernel_rfl)).symm.trans h0_) (by decide), fun h0_ => absurd ((hoff 15 (by kernel_rfl)).symm.trans h0_) (by decide)⟩
    refine steps_cons ?_ ?_
    · rintro b a w' ⟨v5, v12, v13, v14, m15_, ha, Q_HB, Q_R5, Q_R12, Q_R13, Q_R14, Q_X15_⟩ hb_ hon hoff
      refine ⟨_, rfl, fun K hK => ?_⟩
      have e41 : a.tmps[41]? = some (v5) := by rw [ha]; exact putSel_on (e := (5, 41, v5)) 4 rfl rfl (hon 5 (by kernel_rfl)) rfl
      have e49 : a.tmps[49]? = some (v13) := by rw [ha]; exact putSel_on (e := (13, 49, v13)) 9 rfl rfl (hon 13 (by kernel_rfl)) rfl
      replace ha := Aside0.mk ha
      have HB := Aside0.mk Q_HB
      have R5 := Aside0.mk (Q_R5 (hon 5 (by kernel_rfl)) hb_)
      have R13 := Aside0.mk (Q_R13 (hon 13 (by kernel_rfl)) hb_)
      obtain ⟨A_, c_, ev_, hc_, hr_⟩ := Kd.R_reads R13.out
      have HX_ : a.eval (.tmp 49) = .slice A_ (putL [m.status, m.events, m.messages]).length c_ := by rw [← ev_]; exact (by simp only [Act.eval, Array.getD_eq_getD_getElem?, Option.getD_some, e49])
      refine Kd.R_append_rows_step (Kd.int .u8) (w0 := (w.alloc (.cells cx 30 (0, 0))).drew) (w.alloc (.cells cx 30 (0, 0))).drew.heap.size (by rfl) (.tmp 41) (.tmp 49) 22 5 (.int .u8 0) 1 rfl Try.underlying22 (by kernel_rfl) rfl (by decide) (by decide) v5 ([((m.data.length : Int) + 6) % 256]) (putL [m.status, m.events, m.messages]) A_ ((putL [m.status, m.events, m.messages]).length) c_ (fun _ => True) (fun _ => False) (by simp only [Act.eval, Array.getD_eq_getD_getElem?, Option.getD_some, e41]) HX_ R5.out hr_ (fun _ _ h => h) (fun _ h => h.elim) (fun _ _ => trivial) HB.out HB.out.size (by rw [putL_length]; simp only [List.length_cons, List.length_nil]; omega) ?_
      intro nv_ w2 hR_ hB_ hg_ hat_
      refine hK.out _ _ ⟨v5, v12, v13, nv_, m15_, (by rw [ha.out]; exact putSel_upk 10 hb_ rfl rfl rfl), hB_, fun _ h1_ => absurd ((up_self b 14).symm.trans h1_) (by decide), fun _ h1_ => absurd ((hon 13 (by kernel_rfl)).symm.trans h1_) (by decide), fun _ h1_ => absurd ((up_self b 14).symm.trans h1_) (by decide), fun _ => hR_, fun h0_ => absurd ((hoff 15 (by kernel_rfl)).symm.trans h0_) (by decide)⟩
    refine steps_cons ?_ ?_
    · rintro b a w' ⟨v5, v12, v13, v14, m15_, ha, Q_HB, Q_R5, Q_R12, Q_R13, Q_R14, Q_X15_⟩ hb_ hon hoff
      refine ⟨_, rfl, fun K hK => ?_⟩
      have e50 : a.tmps[50]? = some (v14) := by rw [ha]; exact putSel_on (e := (14, 50, v14)) 10 rfl rfl (hon 14 (by kernel_rfl)) rfl
      replace ha := Aside0.mk ha
      have HB := Aside0.mk Q_HB
      have R14 := Aside0.mk (Q_R14 (hon 14 (by kernel_rfl)))
      refine value_ (w1 := w') (v := v14) (by rfl) rfl ?_ ?_
      · go_simp
        (try simp only [i64_w])
        try rfl
      refine hK.out _ _ ⟨v5, v12, v13, v14, (v14), (by rw [ha.out]; exact putSel_upk 11 hb_ rfl rfl rfl), Q_HB, fun _ h1_ => absurd ((hon 14 (by kernel_rfl)).symm.trans h1_) (by decide), fun _ h1_ => absurd ((hon 13 (by kernel_rfl)).symm.trans h1_) (by decide), fun _ h1_ => absurd ((hon 14 (by kernel_rfl)).symm.trans h1_) (by decide), Q_R14, fun _ => rfl⟩
    exact steps_nil
  rintro b a w2 hall ⟨v5, v12, v13, v14, m15_, ha, Q_HB, Q_R5, Q_R12, Q_R13, Q_R14, Q_X15_⟩
  clear HB
  have hb1_ := hall 1 (by kernel_rfl)
  have hb2_ := hall 2 (by kernel_rfl)
  have hb3_ := hall 3 (by kernel_rfl)
  have hb4_ := hall 4 (by kernel_rfl)
  have hb5_ := hall 5 (by kernel_rfl)
  have hb7_ := hall 7 (by kernel_rfl)
  have hb9_ := hall 9 (by kernel_rfl)
  have hb11_ := hall 11 (by kernel_rfl)
  have hb12_ := hall 12 (by kernel_rfl)
  have hb13_ := hall 13 (by kernel_rfl)
  have hb14_ := hall 14 (by kernel_rfl)
  have hb15_ := hall 15 (by kernel_rfl)
  subst ha
  obtain rfl := Q_X15_ hb15_
  simp only [putSel, hb1_, hb2_, hb3_, hb4_, hb5_, hb7_, hb9_, hb11_, hb12_, hb13_, hb14_, hb15_, if_true, Act.put, List.setIfInBounds_toArray, List.set_cons_zero, List.set_cons_succ]
  have HB := Aside0.mk Q_HB
  clear Q_HB
  clear Q_R5
  clear Q_R12
  clear Q_R13
  have R14 := Aside0.mk (Q_R14 hb14_)
  clear Q_R14
  clear hall hb1_ hb2_ hb3_ hb4_ hb5_ hb7_ hb9_ hb11_ hb12_ hb13_ hb14_ hb15_
  have n0_ := Aside0.mk H.out.dr
  clear H
  have H := n0_
  clear n0_
  have kd2 : w2.cell? ⟨w.heap.size, 14, none⟩ = some (.slice A14 m.data.length c14) := (HB.out.cell (World.block_lt_of_cell? _ _ KD.out)).trans KD.out
  have B14 := HB
  clear HB KD KS KE KG
  obtain ⟨A7, c7, rfl, hz7, hr7⟩ := Kd.R_reads R14.out
  clear hz7 hr7
  have hl7 : ([((m.data.length : Int) + 6) % 256] ++ putL [m.status, m.events, m.messages]).length ≤ 7 := by rw [List.length_append, putL_length]; simp only [List.length_cons, List.length_nil]; omega
  go_wp2_with (first | ((with_reducible refine gate_builtin (b := .append) (xs := #[.tmp 51, .tmp 53]) rfl ?_); at_builtin; (try (refine gate_guard (by rfl) ?_; dsimp only)); refine Com.ev_app .u8 5 (.tmp 51) (.tmp 53) 22 1 rfl rfl Try.underlying22 (by kernel_rfl) (by decide) (by decide) rfl rfl R14.out (Kd.C_below (RDD.out) B14.out) B14.out (by first | omega | (simp; omega)) (zs := logged m.status m.events m.messages m.data) (n := (logged m.status m.events m.messages m.data).length) (by first | rfl | simp) (by first | rfl | simp) ?_; intro v1_ Ax nx wap e1_ hR_ hC_ hz_ hb_; have Zx := Aside0.mk hz_; have n0_ := Aside0.mk ((H.out.on hb_).add (sta_C _ _ _ _) (hC_)); clear H; have H := n0_; clear n0_; clear e1_ hR_ hC_ hz_ hb_ R14 B14))
  go_ret
  exact ⟨Ax, nx, rfl, Zx.out, H.out.f.2, H.out.b⟩
theorem rlay_17 {dir : Int} {m : Msg} {cx : Array Value} {w : World} (hm : IsMsg w cx m) (hdl : m.data.length ≤ 900000) (hw : m.words.length ≤ 900000) (hd : dir ≠ 0) (hk : m.code ≠ 8 ∧ m.code ≠ 7 ∧ m.code ≠ 11 ∧ m.code ≠ 12) :
    Calls Try.prog 37 #[.int .i64 dir, .agg cx] w fun en w' => ∃ A c, en = .returned (.slice A (lay dir m).length c) ∧ (lay dir m).length ≤ c ∧ Kd.C (Kd.int .u8) w' A (lay dir m).length (lay dir m) ∧ Below w.heap.size w w' := by
  obtain ⟨⟨a0, a1, a2, a3, a4, a5, a6, a7, a8, a9, a10, a11, _⟩, adt, _⟩ := goodM_num hm.good
  have hws : is16 m.words := hm.good.2.1
  have H := Aside0.mk (Hd.start w)
  have hsz := hm.size
  have hix := msg_info hsz
  have n0_ := Aside0.mk ((((H.out.on (below_alloc (Below.refl _ _) (Obj.cells cx 30)))).add (sta_blk _ _) (blk_new _ _)).add (sta_msg _ _) (hm.on (below_alloc (Below.refl _ _) _)))
  clear H
  have H := n0_
  clear n0_
  have b8 : (m.code == 8) = false := beq_eq_false_iff_ne.2 (by omega)
  have b7 : (m.code == 7) = false := beq_eq_false_iff_ne.2 (by omega)
  have b11 : (m.code == 11) = false := beq_eq_false_iff_ne.2 (by omega)
  have b12 : (m.code == 12) = false := beq_eq_false_iff_ne.2 (by omega)
  have bd : (dir == 0) = false := beq_eq_false_iff_ne.2 hd
  have kcode := bx_code H.out.f.1.2 H.out.f.2
  rw [show lay dir m = counted m.data from by unfold lay; rw [if_neg (by omega), if_neg hd, if_neg (by omega), if_neg (by omega), if_neg (by omega)]]
  obtain ⟨A12, c12, A13, c13, A14, c14, A15, c15, A21, c21, ⟨l12, _, l14, _, _⟩, ⟨r12, q12⟩, _, ⟨r14, q14⟩, _, _⟩ := IsMsg.lists H.out.f.2
  have kd := (blk_cell H.out.f.1.2 14).trans l14
  have RD := Aside0.mk r14
  have QD := Aside0.mk q14
  clear l12 r12 q12 l14 r14 q14
  have wl : IntKind.u8.wrap (m.data.length : Int) = (m.data.length : Int) % 256 := by rw [IntKind.wrap_u8]
  have HA := Aside0.mk (And.intro a4 (And.intro a8 (And.intro a9 (And.intro a10 a11))))
  have HWS := Aside0.mk hws
  have HWL := Aside0.mk hw
  have HDL := Aside0.mk hdl
  clear a0 a1 a2 a3 a4 a5 a6 a7 a8 a9 a10 a11 adt hws hm
  clear hk
  clear hd
  go_enter Try.func37, Try.ntmps37
  go_wp2_with (first | ((with_reducible refine gate_dst (N := 59) rfl ?_); (try (refine gate_guard (by rfl) ?_; dsimp only)); refine Com.ev_rlit .u8 [(m.data.length : Int) % 256] 5 rfl rfl (by first | (go_simp; done) | (go_simp; rfl)) (by simp) ?_; intro v wr hr_ hb_; have Rv := Aside0.mk hr_; have Bv := Aside0.mk hb_; clear hr_ hb_; have n0_ := (Bv.out.cell (World.block_lt_of_cell? _ _ kd)).trans kd; clear kd; have kd := n0_; clear n0_) | ((with_reducible refine gate_builtin (b := .append) (xs := #[.tmp 59, .tmp 61]) rfl ?_); at_builtin; (try (refine gate_guard (by rfl) ?_; dsimp only)); refine Com.ev_app .u8 5 (.tmp 59) (.tmp 61) 22 1 rfl rfl Try.underlying22 (by kernel_rfl) (by decide) (by decide) rfl rfl Rv.out (Kd.C_below (RD.out) Bv.out) Bv.out (by first | omega | (simp; omega)) (zs := counted m.data) (n := (counted m.data).length) (by first | rfl | simp) (by first | rfl | simp) ?_; intro v1_ Ax nx wap e1_ hR_ hC_ hz_ hb_; have Zx := Aside0.mk hz_; have n0_ := Aside0.mk ((H.out.on hb_).add (sta_C _ _ _ _) (hC_)); clear H; have H := n0_; clear n0_; clear e1_ hR_ hC_ hz_ hb_ Rv Bv))
  go_ret
  exact ⟨Ax, nx, rfl, Zx.out, H.out.f.2, H.out.b⟩
theorem rlay_any {dir : Int} {m : Msg} (hd : m.data.length ≤ 900000) (hb : m.words.length ≤ 900000) : LayC 37 dir m (lay dir m) := by
  intro cx W hm
  by_cases h8 : m.code = 8
  · exact rlay_8 hm hd hb h8
  by_cases h0 : dir = 0
  · exact rlay_0 hm hd hb h8 h0
  by_cases h7 : m.code = 7
  · exact rlay_7 hm hd hb h0 h7
  by_cases h11 : m.code = 11
  · exact rlay_11 hm hd hb h0 h11
  by_cases h12 : m.code = 12
  · exact rlay_12 hm hd hb h0 h12
  exact rlay_17 hm hd hb h0 ⟨h8, h7, h11, h12⟩
end Go.Proofs.Ytalaochocmcbcaa.Diag
end
section
namespace Go.Proofs.Ytalaochocmcbcaa.Diag
open Go.RowKit Go.Proofs.Ytalaochocmcbcaa.P Go.Proofs.Ytalaochocmcbcaa.E Go.Proofs.Ytalaochocmcbcaa.Cur Go.Proofs.Ytalaochocmcbcaa.Cu Go.Proofs.Ytalaochocmcbcaa.Same Go.Proofs.Ytalaochocmcbcaa.Put Go.Proofs.Ytalaochocmcbcaa.Com Go.Proofs.YtalaochocmcbcaaW.PrintWords Go.Proofs.YtalaochocmcbcaaW.PrintLast Go.Proofs.YtalaochocmcbcaaW.PrintMore
theorem counted_bytes {l : List Int} (h : isBytes l) : isBytes (counted l) := fun x hx => by
  rcases List.mem_cons.1 hx with rfl | hx
  · omega
  · exact h x hx
theorem logged_bytes {s e g : Int} {l : List Int} (h : isBytes l) : isBytes (logged s e g l) := fun x hx => by
  rcases List.mem_cons.1 hx with rfl | hx
  · omega
  · rcases List.mem_append.1 hx with hx | hx
    · exact putL_bytes _ x hx
    · exact h x hx
theorem lay_bytes {dir : Int} {m : Msg} (hg : goodM m) : isBytes (lay dir m) := by
  have G := (goodM_num hg).2.1
  unfold lay
  split
  · exact putL_bytes _
  split
  · exact fun x hx => absurd hx (List.not_mem_nil)
  split
  · exact fun x hx => by rw [List.mem_singleton.1 hx]; omega
  split
  · exact putL_bytes _
  split
  · exact logged_bytes G
  · exact counted_bytes G
theorem lay_len {dir : Int} {m : Msg} (hd : m.data.length ≤ 1000) (hb : m.words.length ≤ 1000) : (lay dir m).length ≤ 3000 := by
  unfold lay counted logged
  (repeat' split) <;> simp only [putL_length, List.length_append, List.length_cons, List.length_nil] <;> omega
theorem parse_c {dir code : Int} {l : List Int} (hs : l.length ≤ 1000000) (hb : isBytes l) (hc : 0 ≤ code ∧ code < 256) : ParseC 12 dir code l (parse dir code l) := fun A c W hr hc2 => parse_any hr hc2 hs hb hc
theorem rparse_c {dir code : Int} {l : List Int} (hs : l.length ≤ 1000000) (hb : isBytes l) (hc : 0 ≤ code ∧ code < 256) : ParseC 13 dir code l (parse dir code l) := fun A c W hr hc2 => by
  rw [← DiagR.rparse_eq]
  exact DiagR.parse_any hr hc2 hs hb hc
def write (dir : Int) (m : Msg) : List Int × Int := writeR m (lay dir m) (parse dir m.code (lay dir m))
theorem write_c {dir : Int} {m : Msg} (hd : m.data.length ≤ 1000) (hb : m.words.length ≤ 1000) (hg : goodM m) : WriteC 16 dir m (write dir m) := write_of (lay_any (by omega) (by omega)) (parse_c (by have := lay_len (dir := dir) hd hb; omega) (lay_bytes hg) (goodM_num hg).1.1)
theorem rwrite_c {dir : Int} {m : Msg} (hd : m.data.length ≤ 1000) (hb : m.words.length ≤ 1000) (hg : goodM m) : WriteC 17 dir m (write dir m) := rwrite_of (rlay_any (by omega) (by omega)) (rparse_c (by have := lay_len (dir := dir) hd hb; omega) (lay_bytes hg) (goodM_num hg).1.1)
theorem parse_ok {dir code : Int} {b : List Int} (h : (parse dir code b).2 = 0) : (dir = 0 ∨ dir = 1) ∧ isCode code ∧ (bodyR dir { zeroM with code := code } (cu b)).1.fin.e = 0 ∧ parse dir code b = ((bodyR dir { zeroM with code := code } (cu b)).2, 0) := by
  unfold parse at h ⊢
  by_cases h1 : dir ≠ 0 ∧ dir ≠ 1
  · rw [if_pos h1] at h; exact absurd h (by decide)
  rw [if_neg h1] at h ⊢
  by_cases h2 : ¬ isCode code
  · rw [if_pos h2] at h; exact absurd h (by decide)
  rw [if_neg h2] at h ⊢
  by_cases h3 : (bodyR dir { zeroM with code := code } (cu b)).1.fin.e ≠ 0
  · rw [if_pos h3] at h; exact absurd h h3
  rw [if_neg h3]
  exact ⟨by omega, by simpa using h2, by simpa using h3, rfl⟩
theorem parse_of {dir code : Int} {b : List Int} (hd : dir = 0 ∨ dir = 1) (hc : isCode code) (h : (bodyR dir { zeroM with code := code } (cu b)).1.fin.e = 0) : parse dir code b = ((bodyR dir { zeroM with code := code } (cu b)).2, 0) := by
  unfold parse
  rw [if_neg (by omega), if_neg (fun hn => hn hc), if_neg (by simpa using h)]
theorem parse_bad {dir code : Int} {b : List Int} (hd : dir = 0 ∨ dir = 1) (hc : isCode code) (h : (bodyR dir { zeroM with code := code } (cu b)).1.fin.e ≠ 0) : parse dir code b = (zeroM, (bodyR dir { zeroM with code := code } (cu b)).1.fin.e) := by
  unfold parse
  rw [if_neg (by omega), if_neg (fun hn => hn hc), if_pos h]
theorem writeR_ok {m : Msg} {l : List Int} {P : Msg × Int} (h : (writeR m l P).2 = 0) : P.2 = 0 ∧ P.1 = m ∧ writeR m l P = (l, 0) := by
  unfold writeR at h ⊢
  by_cases hc : P.2 = 0 ∧ sameB P.1 m = true
  · rw [if_pos hc]
    exact ⟨hc.1, (same_eq _ _).1 hc.2, rfl⟩
  · rw [if_neg hc] at h
    exact absurd h (by decide)
theorem writeR_no {m : Msg} {l : List Int} {P : Msg × Int} (h : (writeR m l P).2 ≠ 0) : writeR m l P = ([], 1) := by
  unfold writeR at h ⊢
  by_cases hc : P.2 = 0 ∧ sameB P.1 m = true
  · rw [if_pos hc] at h
    exact absurd rfl h
  · rw [if_neg hc]
theorem writeR_eq {m : Msg} {l : List Int} {P : Msg × Int} (h : P = (m, 0)) : writeR m l P = (l, 0) := by
  unfold writeR
  rw [h, if_pos ⟨rfl, same_refl m⟩]
end Go.Proofs.Ytalaochocmcbcaa.Diag
end
section
namespace Go.Proofs.Ytalaochocmcbcaa.Diag
open Go.RowKit Go.Proofs.Ytalaochocmcbcaa.P Go.Proofs.Ytalaochocmcbcaa.E Go.Proofs.Ytalaochocmcbcaa.Cur Go.Proofs.Ytalaochocmcbcaa.Cu Go.Proofs.Ytalaochocmcbcaa.Same Go.Proofs.Ytalaochocmcbcaa.Code Go.Proofs.Ytalaochocmcbcaa.Put Go.Proofs.Ytalaochocmcbcaa.Com Go.Proofs.YtalaochocmcbcaaW.PrintWords Go.Proofs.YtalaochocmcbcaaW.PrintLast Go.Proofs.YtalaochocmcbcaaW.PrintMore
theorem put_word {a b : Int} (ha : 0 ≤ a ∧ a < 256) (hb : 0 ≤ b ∧ b < 256) (t : List Int) : (a * 256 + b) / 256 % 256 :: (a * 256 + b) % 256 :: t = a :: b :: t := by
  rw [show (a * 256 + b) / 256 % 256 = a by omega, show (a * 256 + b) % 256 = b by omega]
theorem bytes_cons {x : Int} {t : List Int} (h : isBytes (x :: t)) : (0 ≤ x ∧ x < 256) ∧ isBytes t := ⟨h x List.mem_cons_self, fun y hy => h y (List.mem_cons_of_mem _ hy)⟩
theorem Dd.left : Dd leftR := fun c h => rfl
theorem left_run {β : Type} (f : Int → (Cu → Cu × β)) (t : List Int) : Rd.bind leftR f (cu t) = f (t.length : Int) (cu t) := rfl
theorem echoR_dd (m : Msg) : Dd (echoR m) := Dd.left.bind fun _ => (Dd.need _ _).bind fun _ => (Dd.words _).bind fun _ => Dd.ret _
theorem lineT_dd (dir s : Int) (m : Msg) : Dd (if s = 0 then echoR { m with sub := s } else Rd.bind (Rd.words 1) fun l => Rd.bind (Rd.need (l.length == 1 && mayB dir s (l.headD 0)) 6) fun _ => Rd.ret ({ m with sub := s, words := l } : Msg)) := Dd.ite (echoR_dd _) ((Dd.words _).bind fun _ => (Dd.need _ _).bind fun _ => Dd.ret _)
def okL (dir s : Int) (l : List Int) : Bool := subB s && (dir == 0 || s != 4) && (if s = 0 then decide (1 ≤ l.length) && decide (l.length ≤ 125) else (l.length == 1 && mayB dir s (l.headD 0)))
theorem two_words_eq (a b : Int) : Take.words [a, b] = [a * 256 + b] := by simp [Take.words, Take.pre, Take.wordAt, List.range_succ]
theorem line_inv {dir : Int} {m : Msg} {b : List Int} (hb : isBytes b) (h : (lineR dir m (cu b)).1.fin.e = 0) : ∃ s l, b = putL (s :: l) ∧ is16 (s :: l) ∧ okL dir s l = true ∧ lineR dir m (cu b) = (cu [], { m with sub := s, words := l }) := by
  have h0 := (fin_ok h).1
  unfold lineR at h h0 ⊢
  obtain ⟨x, y, t, rfl, e1⟩ := word_inv (fun s => (Dd.need _ _).bind fun _ => lineT_dd dir s m) h0
  rw [e1] at h h0 ⊢
  obtain ⟨hc, e2⟩ := need_inv (by decide) (fun _ => lineT_dd dir _ m) h0
  rw [e2] at h h0 ⊢
  clear e1 e2
  obtain ⟨bx, hb⟩ := bytes_cons hb
  obtain ⟨by_, hb⟩ := bytes_cons hb
  have hs : 0 ≤ x * 256 + y ∧ x * 256 + y < 65536 := by omega
  have hput : ∀ l, putL ((x * 256 + y) :: l) = x :: y :: putL l := fun l => put_word bx by_ (putL l)
  obtain ⟨s, hse⟩ : ∃ s, s = x * 256 + y := ⟨_, rfl⟩
  rw [← hse] at h h0 hc hs hput ⊢
  by_cases hz : s = 0
  · rw [if_pos hz] at h h0 ⊢
    unfold echoR at h h0 ⊢
    rw [left_run] at h h0 ⊢
    obtain ⟨hn, e3⟩ := need_inv (by decide) (fun _ => (Dd.words _).bind fun _ => Dd.ret _) h0
    rw [e3] at h h0 ⊢
    obtain ⟨h1, h2, e4⟩ := words_inv (fun _ => Dd.ret _) h0
    rw [e4] at h h0 ⊢
    clear e3 e4
    simp only [Bool.and_eq_true, beq_iff_eq, decide_eq_true_eq] at hn
    have hlen : 2 * ((t.length : Int) / 2).toNat = t.length := by omega
    rw [hlen, List.take_length, List.drop_length] at h ⊢
    refine ⟨s, Take.words t, by rw [hput, putL_words (by omega) hb], fun w hw => ?_, ?_, rfl⟩
    · rcases List.mem_cons.1 hw with rfl | hw
      · exact hs
      · exact words_16 (by omega) hb w hw
    · unfold okL
      rw [hc, if_pos hz, words_length (by omega) hb, Bool.true_and]
      simp only [Bool.and_eq_true, decide_eq_true_eq]
      omega
  · rw [if_neg hz] at h h0 ⊢
    obtain ⟨h1, h2, e4⟩ := words_inv (fun _ => (Dd.need _ _).bind fun _ => Dd.ret _) h0
    rw [e4] at h h0 ⊢
    obtain ⟨hn, e3⟩ := need_inv (by decide) (fun _ => Dd.ret _) h0
    rw [e3] at h h0 ⊢
    clear e3 e4
    have h : (cu (t.drop (2 * (1 : Int).toNat))).fin.e = 0 := h
    have hd : t.drop (2 * (1 : Int).toNat) = [] := (fin_ok h).2
    have hl : t.length = 2 := by
      have := congrArg List.length hd
      rw [List.length_drop] at this
      simp at this
      omega
    obtain ⟨p, q, rfl⟩ : ∃ p q, t = [p, q] := by
      match t, hl with
      | [p, q], _ => exact ⟨p, q, rfl⟩
    obtain ⟨bp, hb⟩ := bytes_cons hb
    obtain ⟨bq, hb⟩ := bytes_cons hb
    have ht : Take.words (List.take (2 * (1 : Int).toNat) [p, q]) = [p * 256 + q] := two_words_eq p q
    rw [ht] at hn ⊢
    refine ⟨s, [p * 256 + q], by rw [hput]; exact congrArg (fun z => x :: y :: z) (put_word bp bq []).symm, fun w hw => ?_, ?_, ?_⟩
    · simp only [List.mem_cons, List.not_mem_nil, or_false] at hw
      rcases hw with rfl | rfl
      · exact hs
      · omega
    · unfold okL
      rw [hc, if_neg hz, hn, Bool.true_and]
    · rfl
theorem line_run {dir s : Int} {m : Msg} {l : List Int} (h : is16 (s :: l)) (ho : okL dir s l = true) : lineR dir m (cu (putL (s :: l))) = (cu [], { m with sub := s, words := l }) := by
  have hs := h s List.mem_cons_self
  have hl : is16 l := fun x hx => h x (List.mem_cons_of_mem _ hx)
  unfold okL at ho
  rw [Bool.and_eq_true] at ho
  obtain ⟨h1, h2⟩ := ho
  unfold lineR
  show Rd.bind Rd.word _ (cu ((s / 256) % 256 :: s % 256 :: putL l)) = _
  rw [word_run _ hs, need_run _ h1]
  by_cases hz : s = 0
  · rw [if_pos hz] at h2 ⊢
    simp only [Bool.and_eq_true, decide_eq_true_eq] at h2
    have hpl := putL_length l
    unfold echoR
    rw [left_run, need_run _ (by simp only [Bool.and_eq_true, beq_iff_eq, decide_eq_true_eq]; omega)]
    have e := words_run (fun l => Rd.ret ({ m with sub := s, words := l } : Msg)) (putL l) [] (n := ((putL l).length : Int) / 2) (by omega)
    rw [List.append_nil] at e
    refine e.trans ?_
    rw [words_putL hl]
    rfl
  · rw [if_neg hz] at h2 ⊢
    rw [Bool.and_eq_true] at h2
    have h3 := h2.1
    obtain ⟨v, rfl⟩ : ∃ v, l = [v] := by
      have h3 := beq_iff_eq.1 h3
      match l, h3 with
      | [v], _ => exact ⟨v, rfl⟩
    have e := words_run (fun l => Rd.bind (Rd.need (l.length == 1 && mayB dir s (l.headD 0)) 6) fun _ => Rd.ret ({ m with sub := s, words := l } : Msg)) (putL [v]) [] (n := 1) (by rw [putL_length]; rfl)
    rw [List.append_nil] at e
    refine e.trans ?_
    rw [words_putL hl, need_run _ (by rw [Bool.and_eq_true]; exact h2)]
    rfl
theorem busy_inv {β : Type} {f : Int → (Cu → Cu × β)} {l : List Int} (hf : ∀ a, Dd (f a)) (h : (Rd.bind busyR f (cu l)).1.e = 0) : ∃ a b t, l = a :: b :: t ∧ (a * 256 + b = 0 ∨ a * 256 + b = 65535) ∧ Rd.bind busyR f (cu l) = f (a * 256 + b) (cu t) := by
  have e : ∀ c, Rd.bind busyR f c = (Rd.bind Rd.word fun s => Rd.bind (Rd.need (s == 0 || s == 65535) 6) fun _ => f s) c := fun _ => rfl
  rw [e] at h ⊢
  obtain ⟨a, b, t, h1, e1⟩ := word_inv (fun s => (Dd.need _ _).bind fun _ => hf s) h
  rw [e1] at h ⊢
  obtain ⟨hc, e2⟩ := need_inv (by decide) (fun _ => hf _) h
  rw [e2]
  exact ⟨a, b, t, h1, by simpa using hc, rfl⟩
theorem busy_run {β : Type} (f : Int → (Cu → Cu × β)) {s : Int} (hs : s = 0 ∨ s = 65535) (t : List Int) : Rd.bind busyR f (cu ((s / 256) % 256 :: s % 256 :: t)) = f s (cu t) := by
  have e : ∀ c, Rd.bind busyR f c = (Rd.bind Rd.word fun s => Rd.bind (Rd.need (s == 0 || s == 65535) 6) fun _ => f s) c := fun _ => rfl
  rw [e, word_run _ (by omega), need_run _ (by simpa using hs)]
theorem events_inv {m : Msg} {b : List Int} (hb : isBytes b) (h : (eventsR m (cu b)).1.fin.e = 0) : ∃ s e, b = putL [s, e] ∧ is16 [s, e] ∧ (s = 0 ∨ s = 65535) ∧ eventsR m (cu b) = (cu [], { m with status := s, events := e }) := by
  have h0 := (fin_ok h).1
  unfold eventsR at h h0 ⊢
  obtain ⟨x, y, t, rfl, hs, e1⟩ := busy_inv (fun _ => Dd.word.bind fun _ => Dd.ret _) h0
  rw [e1] at h h0 ⊢
  obtain ⟨p, q, t2, rfl, e2⟩ := word_inv (fun _ => Dd.ret _) h0
  rw [e2] at h h0 ⊢
  have h : (cu t2).fin.e = 0 := h
  have ht : t2 = [] := (fin_ok h).2
  subst ht
  obtain ⟨bx, hb⟩ := bytes_cons hb
  obtain ⟨by_, hb⟩ := bytes_cons hb
  obtain ⟨bp, hb⟩ := bytes_cons hb
  obtain ⟨bq, hb⟩ := bytes_cons hb
  refine ⟨x * 256 + y, p * 256 + q, ?_, is16_2 (by omega) (by omega), hs, rfl⟩
  show _ = (x * 256 + y) / 256 % 256 :: (x * 256 + y) % 256 :: (p * 256 + q) / 256 % 256 :: (p * 256 + q) % 256 :: []
  rw [put_word bx by_, put_word bp bq]
theorem events_run {s e : Int} {m : Msg} (hs : s = 0 ∨ s = 65535) (he : 0 ≤ e ∧ e < 65536) : eventsR m (cu (putL [s, e])) = (cu [], { m with status := s, events := e }) := by
  unfold eventsR
  show Rd.bind busyR _ (cu ((s / 256) % 256 :: s % 256 :: (e / 256) % 256 :: e % 256 :: [])) = _
  rw [busy_run _ hs, word_run _ he]
  rfl
theorem layc8 {dir : Int} {m : Msg} (h : m.code = 8) : lay dir m = putL (m.sub :: m.words) := by unfold lay; rw [if_pos h]
theorem layc11 {m : Msg} (h : m.code = 11) : lay 1 m = putL [m.status, m.events] := by unfold lay; rw [if_neg (by omega), if_neg (by decide), if_neg (by omega), if_pos h]
theorem bodyc8 {dir : Int} {m : Msg} (h : m.code = 8) : bodyR dir m = lineR dir m := by unfold bodyR; rw [if_pos h]
theorem bodyc0 {m : Msg} (h : m.code ≠ 8) : bodyR 0 m = Rd.ret m := by unfold bodyR; rw [if_neg h, if_neg (by decide)]
theorem bodyc11 {m : Msg} (h : m.code = 11) : bodyR 1 m = eventsR m := by unfold bodyR ansR; rw [if_neg (by omega), if_pos rfl, if_neg (by omega), if_pos h]
theorem few_small {m : Msg} (h : fewB m = true) : m.data.length ≤ 1000 ∧ m.words.length ≤ 1000 := by
  unfold fewB at h
  simp only [Bool.and_eq_true, decide_eq_true_eq, List.all_eq_true] at h
  obtain ⟨⟨h1, h2, h3, h4, h5⟩, h6, h7⟩ := h
  omega
-- what may be written
def mk8 (s : Int) (l : List Int) : Msg := { zeroM with code := 8, sub := s, words := l }
def mkE (s e : Int) : Msg := { zeroM with code := 11, status := s, events := e }
def mkC (code : Int) : Msg := { zeroM with code := code }
theorem write_run {dir : Int} {m : Msg} (hd : dir = 0 ∨ dir = 1) (hc : isCode m.code) (h : bodyR dir { zeroM with code := m.code } (cu (lay dir m)) = (cu [], m)) : write dir m = (lay dir m, 0) := by
  refine writeR_eq ?_
  rw [parse_of hd hc (by rw [h]; rfl), h]
theorem write_body {dir : Int} {m : Msg} (h : (write dir m).2 = 0) : (bodyR dir { zeroM with code := m.code } (cu (lay dir m))).1.fin.e = 0 ∧ (bodyR dir { zeroM with code := m.code } (cu (lay dir m))).2 = m := by
  obtain ⟨h1, h2, _⟩ := writeR_ok h
  obtain ⟨_, _, h3, h4⟩ := parse_ok h1
  rw [h4] at h2
  exact ⟨h3, h2⟩
theorem lay8 (dir s : Int) (l : List Int) : lay dir (mk8 s l) = putL (s :: l) := layc8 (m := mk8 s l) rfl
theorem write8 {dir s : Int} {l : List Int} (hd : dir = 0 ∨ dir = 1) (h : is16 (s :: l)) : write dir (mk8 s l) = if okL dir s l = true then (putL (s :: l), 0) else ([], 1) := by
  have hbd : bodyR dir { zeroM with code := (mk8 s l).code } = lineR dir { zeroM with code := (mk8 s l).code } := bodyc8 (m := { zeroM with code := (mk8 s l).code }) rfl
  split
  · rename_i ho
    rw [← lay8 dir]
    refine write_run hd (.inr (.inl rfl)) ?_
    rw [lay8, hbd]
    exact line_run h ho
  · rename_i ho
    refine writeR_no fun h0 => ho ?_
    obtain ⟨h1, h2⟩ := write_body h0
    rw [lay8, hbd] at h1 h2
    obtain ⟨s', l', e1, i1, o1, e2⟩ := line_inv (putL_bytes _) h1
    rw [e2] at h2
    have a1 : s' = s := congrArg (fun m : Msg => m.sub) h2
    have a2 : l' = l := congrArg (fun m : Msg => m.words) h2
    rw [← a1, ← a2]
    exact o1
theorem layE (s e : Int) : lay 1 (mkE s e) = putL [s, e] := layc11 (m := mkE s e) rfl
theorem writeE {s e : Int} (he : 0 ≤ e ∧ e < 65536) : write 1 (mkE s e) = if s = 0 ∨ s = 65535 then (putL [s, e], 0) else ([], 1) := by
  have hl := layE s e
  have hbd : bodyR 1 { zeroM with code := (mkE s e).code } = eventsR { zeroM with code := (mkE s e).code } := bodyc11 (m := { zeroM with code := (mkE s e).code }) rfl
  split
  · rename_i ho
    rw [← hl]
    refine write_run (.inr rfl) (.inr (.inr (.inl rfl))) ?_
    rw [hl, hbd]
    exact events_run ho he
  · rename_i ho
    refine writeR_no fun h0 => ho ?_
    obtain ⟨h1, h2⟩ := write_body h0
    rw [hl, hbd] at h1 h2
    obtain ⟨s', e', _, _, o1, e2⟩ := events_inv (putL_bytes _) h1
    rw [e2] at h2
    have a1 : s' = s := congrArg (fun m : Msg => m.status) h2
    rw [← a1]
    exact o1
theorem asks {code : Int} {b : List Int} (hc : code = 7 ∨ code = 11 ∨ code = 12 ∨ code = 17) : parse 0 code b = if b = [] then (mkC code, 0) else (zeroM, 3) := by
  have e : bodyR 0 { zeroM with code := code } (cu b) = (cu b, mkC code) := by
    rw [bodyc0 (show code ≠ 8 by omega)]
    rfl
  have hk : isCode code := by unfold isCode; omega
  cases b with
  | nil =>
    rw [if_pos rfl, parse_of (.inl rfl) hk (by rw [e]; rfl), e]
  | cons x t =>
    rw [if_neg (by simp)]
    have e3 : (cu (x :: t)).fin.e = 3 := fin_cu_cons x t
    rw [parse_bad (.inl rfl) hk (by rw [e]; show (cu (x :: t)).fin.e ≠ 0; rw [e3]; decide), e]
    exact congrArg (Prod.mk zeroM) e3
end Go.Proofs.Ytalaochocmcbcaa.Diag
end
section
namespace Go.Proofs.Ytalaochocmcbcaa.Diag
open Go.RowKit Go.Proofs.Ytalaochocmcbcaa.P Go.Proofs.Ytalaochocmcbcaa.E Go.Proofs.Ytalaochocmcbcaa.Cur Go.Proofs.Ytalaochocmcbcaa.Cu Go.Proofs.Ytalaochocmcbcaa.Same Go.Proofs.Ytalaochocmcbcaa.Code Go.Proofs.Ytalaochocmcbcaa.Put Go.Proofs.Ytalaochocmcbcaa.Com Go.Proofs.Ytalaochocmcbcaa.Diag Go.Proofs.YtalaochocmcbcaaW.PrintWords Go.Proofs.YtalaochocmcbcaaW.PrintLast Go.Proofs.YtalaochocmcbcaaW.PrintMore
theorem mkC_is {code : Int} (hc : 0 ≤ code ∧ code < 256) (W : World) : IsMsg W (zeroC.setIfInBounds 0 (.int .u8 code)) (mkC code) := set_code (zero_is W) hc
theorem bytes_dec (l : List Int) (h : l.all (fun x => decide (0 ≤ x) && decide (x < 256)) = true) : isBytes l := fun x hx => by
  have := List.all_eq_true.1 h x hx
  simpa using this
theorem ex1 : parse 0 8 [0, 0, 165, 55] = (mk8 0 [42295], 0) := by
  have h := write8 (dir := 0) (s := 0) (l := [42295]) (.inl rfl) (is16_2 (by decide) (by decide))
  rw [if_pos (by decide)] at h
  obtain ⟨h1, h2, _⟩ := writeR_ok (show (write 0 (mk8 0 [42295])).2 = 0 by rw [h])
  rw [lay8] at h1 h2
  exact Prod.ext h2 h1
theorem ex2 : parse 1 11 [255, 255, 1, 8] = (mkE 65535 264, 0) := by
  have h := writeE (s := 65535) (e := 264) (by decide)
  rw [if_pos (.inr rfl)] at h
  obtain ⟨h1, h2, _⟩ := writeR_ok (show (write 1 (mkE 65535 264)).2 = 0 by rw [h])
  rw [layE] at h1 h2
  exact Prod.ext h2 h1
theorem ex3 : write 0 (mkC 7) = ([], 0) := by
  have h := asks (code := 7) (b := []) (.inl rfl)
  rw [if_pos rfl] at h
  exact writeR_eq h
end Go.Proofs.Ytalaochocmcbcaa.Diag
end
section
namespace Go.Proofs.Ytalaochocmcbcaa.Laws
open Go.RowKit Go.Proofs.Ytalaochocmcbcaa.P Go.Proofs.Ytalaochocmcbcaa.E Go.Proofs.Ytalaochocmcbcaa.Cur Go.Proofs.Ytalaochocmcbcaa.Cu Go.Proofs.Ytalaochocmcbcaa.Same Go.Proofs.Ytalaochocmcbcaa.Code Go.Proofs.Ytalaochocmcbcaa.Put Go.Proofs.Ytalaochocmcbcaa.Com Go.Proofs.Ytalaochocmcbcaa.Diag Go.Proofs.YtalaochocmcbcaaW.PrintWords Go.Proofs.YtalaochocmcbcaaW.PrintLast Go.Proofs.YtalaochocmcbcaaW.PrintMore
theorem awake_any (w : World) :
    Calls Try.prog 11 #[] w fun e w' => e = .returned (.bool true) ∧ Below w.heap.size w w' := by
  have H1 := Aside0.mk (show ParseC 12 0 8 [0, 0, 165, 55] (mk8 0 [42295], 0) from by rw [← ex1]; exact parse_c (by decide) (bytes_dec _ (by decide)) (by decide))
  have H2 := Aside0.mk (show ParseC 12 1 11 [255, 255, 1, 8] (mkE 65535 264, 0) from by rw [← ex2]; exact parse_c (by decide) (bytes_dec _ (by decide)) (by decide))
  have H3 := Aside0.mk (show WriteC 16 0 (mkC 7) ([], 0) from by rw [← ex3]; exact write_c (Nat.zero_le _) (Nat.zero_le _) (good_code zero_good (v := 7) (by decide)))
  have H := Aside0.mk (Hd.start w)
  go_enter Try.func11, Try.ntmps11
  go_upto_region 2 with (first | ((with_reducible refine gate_dst (N := 8) rfl ?_); (try (refine gate_guard (by rfl) ?_; dsimp only)); refine ev_lit .u8 [0, 0, 165, 55] 5 rfl (by first | (go_simp; done) | (go_simp; rfl)) (by simp) ?_; intro Aa ca wl ba he_ hr_ hz_ hb_; have Za := Aside0.mk hz_; have Ea := Aside0.mk he_; have n0_ := Aside0.mk ((H.out.on hb_).add (sta_C _ _ _ _) (hr_)); clear H; have H := n0_; clear n0_; clear hr_ hz_ hb_ he_) | (go_at_call 12; (with_reducible refine (ParseC.c (ParseC.ex H1.out Ea.out) H.out.f.2 Za.out).mono ?_); rintro en wm ⟨cm, rfl, hm_, hb_⟩; have n0_ := Aside0.mk ((H.out.on hb_).add (sta_msg _ _) (hm_)); clear H; have H := n0_; clear n0_; clear hb_ hm_) | ((with_reducible refine gate_dst (N := 1) rfl ?_); refine ev_var (y := .tmp 10) rfl rfl rfl rfl rfl H.out.f.2 rfl rfl ?_; intro gm wv hg_ h1_ hb_; have n0_ := Aside0.mk ((H.out.on hb_).add (sta_blk _ _) (h1_)); clear H; have H := n0_; clear n0_; clear h1_ hb_ hg_))
  go_upto_region 3 with (first | ((with_reducible refine gate_dst (N := 13) rfl ?_); (try (refine gate_guard (by rfl) ?_; dsimp only)); refine ev_lit .u8 [255, 255, 1, 8] 5 rfl (by first | (go_simp; done) | (go_simp; rfl)) (by simp) ?_; intro Ab cb wlb bb he_ hr_ hz_ hb_; have Zb := Aside0.mk hz_; have Eb := Aside0.mk he_; have n0_ := Aside0.mk ((H.out.on hb_).add (sta_C _ _ _ _) (hr_)); clear H; have H := n0_; clear n0_; clear hr_ hz_ hb_ he_) | (go_at_call 12; (with_reducible refine (ParseC.c (ParseC.ex H2.out Eb.out) H.out.f.2 Zb.out).mono ?_); rintro en wx ⟨cx, rfl, hm_, hb_⟩; have n0_ := Aside0.mk ((H.out.on hb_).add (sta_msg _ _) (hm_)); clear H; have H := n0_; clear n0_; clear hb_ hm_) | ((with_reducible refine gate_dst (N := 3) rfl ?_); refine ev_var (y := .tmp 15) rfl rfl rfl rfl rfl H.out.f.2 rfl rfl ?_; intro gx wxx hg_ h1_ hb_; have n0_ := Aside0.mk ((H.out.on hb_).add (sta_blk _ _) (h1_)); clear H; have H := n0_; clear n0_; clear h1_ hb_ hg_))
  go_upto_region 4 with (first | ((with_reducible refine gate_dst (N := 18) rfl ?_); (try (refine gate_guard (by rfl) ?_; dsimp only)); refine ev_build (zeroC.setIfInBounds 0 (.int .u8 7)) rfl (by first | (go_simp; done) | (go_simp; rfl)) ?_; intro cz hcx_; have mx_ := (fun W => (by rw [hcx_]; exact ((fun W => mkC_is (by decide) W)) W : IsMsg W cz (mkC 7))); have n0_ := Aside0.mk ((H.out).add (sta_msg _ _) (mx_ _)); clear H; have H := n0_; clear n0_; clear hcx_ mx_) | (go_at_call 16; (with_reducible refine (WriteC.n H3.out (n := 0) rfl H.out.f.2).mono ?_); rintro en ww ⟨Aw, cw, rfl, hz_, hr_, hb_⟩; have n0_ := Aside0.mk ((H.out.on hb_).add (sta_C _ _ _ _) (hr_)); clear H; have H := n0_; clear n0_; have Zw := Aside0.mk hz_; clear hb_ hr_ hz_))
  obtain ⟨A12, c12, A13, c13, A14, c14, A15, c15, A21, c21, ⟨l12, _, _, _, _⟩, _, _, _, _, _⟩ := IsMsg.lists H.out.f.1.1.1.1.1.1.2
  have k12 : ww.cell? ⟨gm, 12, none⟩ = some (.slice A12 1 c12) := (blk_cell H.out.f.1.1.1.1.1.2 12).trans l12
  have ksub : ww.cell? ⟨gm, 8, none⟩ = some (.int .u16 0) := bx_sub H.out.f.1.1.1.1.1.2 H.out.f.1.1.1.1.1.1.2
  have kst : ww.cell? ⟨gx, 9, none⟩ = some (.int .u16 65535) := bx_status H.out.f.1.1.2 H.out.f.1.1.1.2
  have kev : ww.cell? ⟨gx, 10, none⟩ = some (.int .u16 264) := bx_events H.out.f.1.1.2 H.out.f.1.1.1.2
  clear l12
  go_wp2
  go_ret
  exact ⟨by first | rfl | (simp; done) | decide, H.out.b⟩
theorem awake_c : AwakeC 11 := fun W => awake_any W
theorem u8_wf {n : Int} (h : (Lit.int .u8 n).wf = true) : 0 ≤ n ∧ n < 256 := by
  simp only [Lit.wf, IntKind.min, IntKind.max, IntKind.signed, IntKind.bits, Bool.and_eq_true, decide_eq_true_eq] at h
  simp at h
  omega
end Go.Proofs.Ytalaochocmcbcaa.Laws
end
section
namespace Go.Proofs.Ytalaochocmcbcaa.Open
open Go.RowKit Go.ChangeShapes Go.WideShapes Go.Deep Go.Proofs.YtalaochocmcbcaaW.PrintWords
def Opens {H : Type} (enc : TypeId × Value → H) (P : Program) (w : World) (base : Nat) (held : Bool) (t : TypeId) {α : Type} (d : Kd α) (good : α → Prop) : Prop :=
  ∀ fuel cs x, DataW.trod enc P w base (fun _ => true) held fuel t cs = some x → ∃ y, d.K w y cs ∧ good y
section
variable {H : Type} {enc : TypeId × Value → H} {P : Program} {w : World} {base : Nat} {held : Bool} {α : Type}
theorem opens_int {t : TypeId} {k : IntKind} (ht : P.underlying t = some (.int k)) : Opens enc P w base held t (Kd.int k) (fun n => (Lit.int k n).wf = true) := by
  intro fuel cs x h
  obtain ⟨n, rfl, _, hw⟩ := DataW.trod_int ht h
  exact ⟨n, rfl, hw⟩
theorem opens_bool {t : TypeId} (ht : P.underlying t = some .bool) : Opens enc P w base held t Kd.bool (fun _ => True) := by
  intro fuel cs x h
  obtain ⟨b, rfl, _⟩ := DataW.trod_bool ht h
  exact ⟨b, rfl, trivial⟩
theorem opens_slice {t e : TypeId} {d : Kd α} {g : α → Prop} (ht : P.underlying t = some (.slice e)) (hc : P.cellsOf e = d.sz) (h : Opens enc P w base held e d g) :
    Opens enc P w base held t (Kd.slice e d) (fun l => l.length ≤ maxLen ∧ ∀ x ∈ l, g x) := by
  intro fuel cs x hx
  rcases open_slice ht hx with ⟨rfl, _⟩ | ⟨a, len, cap, m, n, D, Pl, rfl, _, hl, hm, hmm, _, hel⟩
  · exact ⟨[], ⟨none, 0, rfl, Nat.le_refl _, Kd.C_nil d w⟩, Nat.zero_le _, fun x hx => by cases hx⟩
  · simp only [if_true] at hmm
    subst hmm
    have hone : ∀ i : Fin len, ∃ y, (∃ c, c.length = d.sz ∧ d.K w y c ∧ ∀ j u, c[j]? = some u → w.cell? (a.add (i.val * d.sz + j)) = some u) ∧ g y := by
      intro i
      obtain ⟨cs', h1, h2⟩ := hel i.val (Nat.lt_of_lt_of_le i.isLt hl)
      obtain ⟨y, hk, hg⟩ := h n cs' _ h2
      rw [hc] at h1
      obtain ⟨_, h4, h5⟩ := World.cells?_some h1
      refine ⟨y, ⟨cs', h4, hk, fun j u hu => ?_⟩, hg⟩
      have hj : j < d.sz := by rw [← h4]; exact (List.getElem?_eq_some_iff.1 hu).1
      have := h5 j hj
      rw [hu] at this
      rw [← Addr.add_add]
      exact this
    let ys := List.ofFn fun i => Classical.choose (hone i)
    have hy : ys.length = len := by simp [ys]
    refine ⟨ys, ⟨some a, m, by rw [hy], by rw [hy]; exact hl, ?_⟩, by rw [hy]; exact Nat.le_trans hl hm, ?_⟩
    · refine ⟨rfl, by rw [hy]; exact Nat.le_trans hl hm, fun _ => ⟨a, rfl, fun j p hp => ?_⟩⟩
      have hj : j < len := by rw [← hy]; exact (List.getElem?_eq_some_iff.1 hp).1
      have : p = Classical.choose (hone ⟨j, hj⟩) := by
        simp only [ys, List.getElem?_ofFn, hj, dite_true] at hp
        exact (Option.some.inj hp).symm
      subst this
      exact (Classical.choose_spec (hone ⟨j, hj⟩)).1
    · intro x hx
      simp only [ys, List.mem_ofFn] at hx
      obtain ⟨i, rfl⟩ := hx
      exact (Classical.choose_spec (hone i)).2
theorem opens_at {fs : Array Field} {cs : List Value} {xs : List (DataW H × List MemPlace)} {n : Nat} {d : Kd α} {g : α → Prop}
    (hf : ∀ (i : Nat) (f : Field), fs[i]? = some f → DataW.trod enc P w base (fun _ => true) held n f.type ((cs.drop f.offset).take (P.cellsOf f.type)) = xs[i]?) (hlen : xs.length = fs.size)
    (hone : oneCellFields P fs = true) (i : Nat) (f : Field) (hi : fs[i]? = some f) (c : Value) (hc : cs[i]? = some c) (H1 : Opens enc P w base held f.type d g) : ∃ y, d.K w y [c] ∧ g y := by
  obtain ⟨o1, k1⟩ := hone_of hone i f hi
  have h := hf i f hi
  have hlt : i < xs.length := by rw [hlen]; exact (Array.getElem?_eq_some_iff.1 hi).1
  rw [o1, k1, List.getElem?_eq_getElem hlt] at h
  have hci := (List.getElem?_eq_some_iff.1 hc).1
  have hs : (cs.drop i).take 1 = [c] := by
    rw [List.drop_eq_getElem_cons hci, List.take_succ_cons, List.take_zero, (List.getElem?_eq_some_iff.1 hc).2]
  rw [hs] at h
  exact H1 n [c] _ h
theorem open_slice_arg {t e : TypeId} {d : Kd α} {g : α → Prop} {a : Option Addr} {len cap : Nat} {x : DataW H} {p : List MemPlace} (h : DataW.Trod enc P w base (fun _ => true) held t (.slice a len cap) x p)
    (H1 : Opens enc P w base held t (Kd.slice e d) (fun l => l.length ≤ maxLen ∧ ∀ x ∈ l, g x)) : ∃ l, len = l.length ∧ d.C w a l.length l ∧ l.length ≤ cap ∧ l.length ≤ maxLen ∧ ∀ x ∈ l, g x := by
  obtain ⟨fuel, hf⟩ := h
  obtain ⟨l, ⟨A, c, he, hl, hC⟩, h1, h2⟩ := H1 fuel _ _ hf
  simp [Value.cells] at he
  obtain ⟨rfl, rfl, rfl⟩ := he
  exact ⟨l, rfl, hC, hl, h1, h2⟩
end
end Go.Proofs.Ytalaochocmcbcaa.Open
end
