/- What the laws of this chapter rest on, part 4: what the functions that they reach answer, each shown once. Conditions: what each theorem states. (Merged by a program of this session, wip/tools/merge.py, out of its own texts and of the words that the kit's print wrote for this seat, cut to those that are used.) -/
import Derived.Deep.CutRange
import Derived.Laws.EntriesVeiled
import Derived.Test.YtdjeekpgcjcffaaOC
set_option linter.unusedVariables false
set_option linter.unusedSimpArgs false
set_option maxHeartbeats 16000000
set_option maxRecDepth 100000
section
namespace Go.Proofs.Ytdjeekpgcjcffaa.Fil
open Go.RowKit Go.Proofs.Ytdjeekpgcjcffaa.P Go.Proofs.Ytdjeekpgcjcffaa.E Go.Proofs.Ytdjeekpgcjcffaa.Cur Go.Proofs.Ytdjeekpgcjcffaa.Cu Go.Proofs.Ytdjeekpgcjcffaa.Same Go.Proofs.YtdjeekpgcjcffaaW.PrintWords Go.Proofs.YtdjeekpgcjcffaaW.PrintLast Go.Proofs.YtdjeekpgcjcffaaW.PrintMore
attribute [local go_sem] Oper.semAt_some
def within (e : Int) : Int := if e = 2 then 5 else e
def body (rd : Rdp) (may : Int → Bool) (bs : List Int) : Cu × List S43 :=
  let c2 := (cu bs).byteS.need (may (cu bs).byteV) 5
  let p := partsG rd (c2.bytesV (cu bs).byteV).length 0 (cu (c2.bytesV (cu bs).byteV))
  ((c2.bytesS (cu bs).byteV).need (p.1.e == 0) (within p.1.e), p.2)
def outc (code : Int) (b : Cu × List S43) : Msg × Int := if b.1.fin.e ≠ 0 then (zeroM, b.1.fin.e) else ({ zeroM with code := code, recs := b.2 }, 0)
def parse (dir code : Int) (bs : List Int) : Msg × Int :=
  if dir ≠ 0 ∧ dir ≠ 1 then (zeroM, 1) else if code ≠ 20 ∧ code ≠ 21 then (zeroM, 4) else
  if code = 20 then (if dir = 0 then outc 20 (body rd0 may0 bs) else outc 20 (body rd1 may1 bs)) else outc 21 (body rd2 may2 bs)
theorem full_mk (g fo : Nat) (lbo : Array Value) (w : World) : Calls Try.prog 24 #[.pointer (some ⟨g, 0, none⟩), .func (.func fo) #[] lbo] w fun en w' => ∃ b2 b3, en = .returned (.func (.func 42) #[] #[.pointer (some ⟨b2, 0, none⟩), .pointer (some ⟨b3, 0, none⟩)]) ∧ w.heap.size ≤ b2 ∧ w.heap.size ≤ b3 ∧ b2 < w'.heap.size ∧ b3 < w'.heap.size ∧ w'.cell? ⟨b2, 0, none⟩ = some (.pointer (some ⟨g, 0, none⟩)) ∧ w'.cell? ⟨b3, 0, none⟩ = some (.func (.func fo) #[] lbo) ∧ b2 ≠ b3 ∧ Below w.heap.size w w' := by
  go_enter Try.func24, Try.ntmps24
  go_wp2
  have a1 := blk_new w (.cells #[Value.pointer (some ⟨g, 0, none⟩)] 54 (0, 0))
  have b1 := below_alloc (Below.refl w.heap.size w) (.cells #[Value.pointer (some ⟨g, 0, none⟩)] 54 (0, 0))
  have a2 := blk_new (w.alloc (.cells #[Value.pointer (some ⟨g, 0, none⟩)] 54 (0, 0))) (.cells #[Value.func (.func fo) #[] lbo] 49 (0, 0))
  have b2 := below_alloc (Below.refl (w.alloc (.cells #[Value.pointer (some ⟨g, 0, none⟩)] 54 (0, 0))).heap.size _) (.cells #[Value.func (.func fo) #[] lbo] 49 (0, 0))
  rw [World.size_alloc] at a2
  refine bodyPost_ret (results_tmp rfl _ _ _) rfl ⟨w.heap.size, w.heap.size + 1, rfl, by omega, by omega, by simp; omega, by simp, blk_cell (blk_below a1 b2) 0, blk_cell a2 0, by omega, b1.trans (b2.mono (by simp))⟩
structure Nw2 (W1 : World) (g : Nat) (W : World) (c : Cu) : Prop where
  b : Below W1.heap.size W1 W
  cur : ∃ lo, PAt lo g W g c ∧ W1.heap.size ≤ lo
  gl : W1.heap.size ≤ g
section
variable {W1 W W' : World} {g : Nat} {c c' : Cu}
theorem Nw2.stp (h : Nw2 W1 g W c) (u : Upd g W W') (p : ∃ lo, PAt lo g W' g c' ∧ W1.heap.size ≤ lo) : Nw2 W1 g W' c' := ⟨h.b.trans (u.below h.gl h.b.size), p, h.gl⟩
theorem Nw2.below (h : Nw2 W1 g W c) (hb : Below W.heap.size W W') : Nw2 W1 g W' c := by
  obtain ⟨lo, p, hl⟩ := h.cur
  exact ⟨h.b.trans (hb.mono h.b.size), ⟨lo, p.below hb, hl⟩, h.gl⟩
theorem Nw2.good (h : Nw2 W1 g W c) : c.good := by
  obtain ⟨lo, p, _⟩ := h.cur
  exact p.2
theorem Nw2.byte (h : Nw2 W1 g W c) : Calls Try.prog 21 #[.pointer (some ⟨g, 0, none⟩)] W fun en w' => en = .returned (.int .u8 c.byteV) ∧ Nw2 W1 g w' c.byteS := by
  obtain ⟨lo, p, hl⟩ := h.cur
  exact (p_byte p).mono fun en w' ⟨e, q, u⟩ => ⟨e, h.stp u ⟨lo, q, hl⟩⟩
theorem Nw2.need (h : Nw2 W1 g W c) (ok : Bool) (f : Int) : Calls Try.prog 22 #[.pointer (some ⟨g, 0, none⟩), .bool ok, .int .i64 f] W fun en w' => en = .returned (.tuple #[]) ∧ Nw2 W1 g w' (c.need ok f) := by
  obtain ⟨lo, p, hl⟩ := h.cur
  exact (p_need p ok f).mono fun en w' ⟨e, q, u⟩ => ⟨e, h.stp u ⟨lo, q, hl⟩⟩
theorem Nw2.bytes (h : Nw2 W1 g W c) (n : Int) : Calls Try.prog 23 #[.pointer (some ⟨g, 0, none⟩), .int .i64 n] W fun en w' => ∃ A' c', en = .returned (.slice A' (c.bytesV n).length c') ∧ (c.bytesV n).length ≤ c' ∧ Kd.C (Kd.int .u8) w' A' (c.bytesV n).length (c.bytesV n) ∧ Nw2 W1 g w' (c.bytesS n) := by
  obtain ⟨lo, p, hl⟩ := h.cur
  exact (p_bytes p n).mono fun en w' ⟨A', c', e, z, r, q, u⟩ => ⟨A', c', e, z, r.now, h.stp u ⟨lo, q, hl⟩⟩
end
structure Af (W3 : World) (g lo : Nat) (W : World) (c : Cu) : Prop where
  k : UpdS (fun k => k = g) W3 W
  cur : PAt lo g W g c
section
variable {W3 W W' : World} {g lo : Nat} {c : Cu}
theorem Af.need (h : Af W3 g lo W c) (ok : Bool) (f : Int) : Calls Try.prog 22 #[.pointer (some ⟨g, 0, none⟩), .bool ok, .int .i64 f] W fun en w' => en = .returned (.tuple #[]) ∧ Af W3 g lo w' (c.need ok f) :=
  (p_need h.cur ok f).mono fun en w' ⟨e, q, u⟩ => ⟨e, h.k.trans (UpdS.of_upd u rfl), q⟩
theorem Af.fin (h : Af W3 g lo W c) : Calls Try.prog 27 #[.pointer (some ⟨g, 0, none⟩)] W fun en w' => en = .returned (.tuple #[]) ∧ Af W3 g lo w' c.fin :=
  (p_end h.cur).mono fun en w' ⟨e, q, u⟩ => ⟨e, h.k.trans (UpdS.of_upd u rfl), q⟩
theorem Af.below (h : Af W3 g lo W c) (hb : Below W.heap.size W W') : Af W3 g lo W' c := ⟨h.k.trans ⟨hb.os, hb.tape, hb.output, Kept.of_below hb _⟩, h.cur.below hb⟩
end
theorem within_any (e : Int) (w : World) : Calls Try.prog 26 #[.int .i64 e] w fun en w' => en = .returned (.int .i64 (within e)) ∧ Below w.heap.size w w' := by
  refine (files_within.calls e (within e) w (by unfold files_within.f within; split <;> rfl)).mono ?_
  rintro en w' ⟨rfl, hd⟩
  exact ⟨rfl, hd.below⟩
theorem run_alloc_rule (ev : Operand → Value) (o : Oper) (ho : o.op = .alloc 51) (W : World) : (execOp ev o).run Try.prog W = .ok (.value (.pointer (some ⟨W.heap.size, 0, none⟩))) (W.alloc (.cells #[Value.nilFunc, Value.nilFunc] 51 (0, 0))) := by
  unfold execOp
  rw [ho]
  kernel_rfl
theorem ev_rule {ops : Array Oper} {rest : List Oper} {o : Oper} {a : Act} {w : World} {Q : Exit → Act → World → Prop} (ho : o.op = .alloc 51) (hgd : o.guard = none)
    (h : ∀ g w1, g = w.heap.size → w1.heap[g]? = some (.cells #[Value.nilFunc, Value.nilFunc] 51 (0, 0)) → Below w.heap.size w w1 → wpList Try.prog ops Q rest (a.put o.dst (.pointer (some ⟨g, 0, none⟩))) w1) : wpList Try.prog ops Q (o :: rest) a w :=
  Kd.event_run hgd (run_alloc_rule a.eval o ho w) (h _ _ rfl (blk_new w _) (below_alloc (Below.refl _ _) _))
theorem funcs_one {a b : Fn} {x y : Array Value} : (#[Value.func a #[] x, .func b #[] y] : Array Value).all (·.oneCell') = true := by simp [Value.oneCell']
theorem bytesV_len {c : Cu} (h : c.good) (n : Int) : (c.bytesV n).length ≤ 1000000 := by
  have := h.2.1
  unfold Cu.bytesV
  split
  · simp; omega
  · simp
structure Pr (w0 : World) (gr sb br : Nat) (f1 f2 : Value) (W1 : World) : Prop where
  b : Below w0.heap.size w0 W1
  res : W1.heap[gr]? = some (.cells zeroC 30 (0, 0))
  sm : SumAt W1 sb 0
  rl : W1.heap[br]? = some (.cells #[f1, f2] 51 (0, 0))
  h : w0.heap.size ≤ gr ∧ gr < sb ∧ sb < br
theorem Pr.mk' {w0 w1 x1 w2 w3 : World} {gr sb br : Nat} {f1 f2 : Value} (hg : gr = w0.heap.size) (h1 : w1.heap[gr]? = some (.cells zeroC 30 (0, 0))) (h2 : Below w0.heap.size w0 w1) (hs : w1.heap.size ≤ sb) (hm : SumAt x1 sb 0) (hb : Below w1.heap.size w1 x1) (g2 : br = x1.heap.size) (b2 : Below x1.heap.size x1 w2) (h3 : w3.heap[br]? = some (.cells #[f1, f2] 51 (0, 0))) (h4 : Up1 br w2 w3) : Pr w0 gr sb br f1 f2 w3 := by
  have k := b2.trans (h4.below (by omega) b2.size)
  exact ⟨h2.trans ((hb.trans (k.mono hb.size)).mono h2.size), blk_below (blk_below h1 hb) k, blk_below hm k, h3, ⟨by omega, by have := blk_lt h1; omega, by have := blk_lt hm; omega⟩⟩
structure Lts (w0 W1 w : World) (gr sb br g lo gb gm : Nat) : Prop where
  lay : Lay (w.heap.size + 2) gb gm sb (w.heap.size + 1) lo gb
  lt : gb < w.heap.size ∧ gm < w.heap.size ∧ sb < w.heap.size
  b1 : Below W1.heap.size W1 w
  od : gr < sb ∧ sb < br ∧ br < W1.heap.size ∧ W1.heap.size ≤ g ∧ g < lo ∧ lo ≤ gb ∧ gb < gm
theorem lts_of {w0 W1 x6 x7 x8 x9 : World} {gr sb br g gb gm : Nat} {f1 f2 : Value} {c3 c' : Cu} {cx : Array Value} (h : Pr w0 gr sb br f1 f2 W1) (hn : Nw2 W1 g x6 c3) (q1 : x6.heap.size ≤ gb) (hp : PAt x6.heap.size gb x7 gb c') (q3 : Below x6.heap.size x6 x7) (m1 : gm = x7.heap.size) (m3 : Below x7.heap.size x7 x8) (m2 : x8.heap[gm]? = some (.cells cx 30 (0, 0))) (f8 : Below x8.heap.size x8 x9) : Lts w0 W1 x9 gr sb br g x6.heap.size gb gm := by
  have e1 := blk_lt h.rl
  have e2 : g < x6.heap.size := by obtain ⟨lo, p, _⟩ := hn.cur; exact p.1.lt
  have e3 := hn.gl
  have e4 := hp.1.lt
  have e5 := blk_lt m2
  have e6 := h.h
  have e7 := f8.size
  have e8 := m3.size
  have e9 := q3.size
  exact ⟨⟨by omega, by omega, by omega, Nat.le_refl _⟩, by omega, hn.b.trans ((q3.trans ((m3.trans (f8.mono e8)).mono e9)).mono hn.b.size), by omega⟩
theorem within_ne {e : Int} (h : within e = 0) : e = 0 := by
  unfold within at h
  split at h <;> omega
theorem need_ok' {c : Cu} {ok : Bool} {f : Int} (hf : f = 0 → ok = true) (h : (c.need ok f).e = 0) : c.e = 0 ∧ ok = true ∧ c.need ok f = c := by
  by_cases h0 : f = 0
  · have := hf h0
    subst this
    rw [need_true] at h ⊢
    exact ⟨h, rfl, rfl⟩
  · exact need_ok h0 h
structure Aft (w0 W3 : World) (gr g gm D lo : Nat) (c : Cu) (cx : Array Value) (m : Msg) : Prop where
  b : Below w0.heap.size w0 W3
  af : Af W3 g lo W3 c
  res : W3.heap[gr]? = some (.cells zeroC 30 (0, 0))
  mg : W3.heap[gm]? = some (.cells cx 30 (0, 0))
  is : ∀ W', Kept W3 W' (fun k => k = g ∨ k = gr ∨ k = D) → IsMsg W' cx m
  df : W3.heap[D]? = some (.deferred (some []))
  h : w0.heap.size ≤ g ∧ w0.heap.size ≤ gr ∧ w0.heap.size ≤ D
  ne : gr ≠ g ∧ gm ≠ g ∧ D ≠ g ∧ D ≠ gr
theorem aft_of {w0 W1 x6 x8 x9 W0 W3 : World} {gr sb br g gb gm l : Nat} {f1 f2 v : Value} {c3 cb : Cu} {code s : Int} {rec : Loop} {os : List S43} {raws : List RawR} (hp : Pr w0 gr sb br f1 f2 W1) (hn : Nw2 W1 g x8 c3) (f8 : Below x8.heap.size x8 x9) (T : Lts w0 W1 x9 gr sb br g x6.heap.size gb gm) (hb : Below x9.heap.size x9 W0) (hz : W0.heap.size = x9.heap.size + 2) (hl : l = x9.heap.size + 1) (h : LS W0 gb gm sb l x6.heap.size gb code rec W3 cb s os raws v) (hD : W3.heap[x9.heap.size]? = some (.deferred (some []))) (hc : 0 ≤ code ∧ code < 256) :
    ∃ lo cx, Aft w0 W3 gr g gm x9.heap.size lo c3 cx { zeroM with code := code, recs := os } := by
  obtain ⟨lo, pc, hlo⟩ := hn.cur
  have o := T.od
  have t := T.lt
  have r := hp.h
  have z := hp.b.size
  have gl := hn.gl
  obtain ⟨cx, m1, m2⟩ := h.close (by rw [hz, hl]; exact T.lay) hc
  have kk := h.up.kept
  refine ⟨lo, cx, ?_, ⟨⟨rfl, rfl, rfl, Kept.refl _ _⟩, ?_⟩, ?_, m1, fun W' hk => m2 W' (hk.mono fun j hj => by omega), hD, ⟨by omega, by omega, by omega⟩, ⟨by omega, by omega, by omega, by omega⟩⟩
  · refine (hp.b.trans ((T.b1.trans (hb.mono T.b1.size)).mono z)).trans (h.up.below (fun k e => by omega) (by omega))
  · exact ((pc.below f8).below hb).on kk (fun k e => by omega) (by omega)
  · exact blk_kept (blk_below (blk_below hp.res T.b1) hb) kk (by omega)
theorem Aft.fin {w0 W3 W W' : World} {gr g gm D lo : Nat} {c c' : Cu} {cx cy : Array Value} {m : Msg} (h : Aft w0 W3 gr g gm D lo c cx m) (a : Af W3 g lo W c') (u : Up1 gr W W') (h1 : W'.heap[gr]? = some (.cells cy 30 (0, 0))) :
    W'.heap[D]? = some (.deferred (some [])) ∧ (W'.putObj D (.deferred none)).heap[gr]? = some (.cells cy 30 (0, 0)) ∧ Below w0.heap.size w0 (W'.putObj D (.deferred none)) ∧ Kept W3 (W'.putObj D (.deferred none)) (fun k => k = g ∨ k = gr ∨ k = D) := by
  have n := h.ne
  have hh := h.h
  have k0 : Kept W' (W'.putObj D (.deferred none)) (fun k => k = D) := ⟨by simp, fun i _ hn => World.putObj_heap_other hn⟩
  have k1 : Kept W3 W (fun k => k = g ∨ k = gr ∨ k = D) := a.k.kept.mono fun j hj => .inl hj
  have k2 := (k1.then_ u.kept fun j hj => .inl (.inr (.inl hj))).then_ k0 fun j hj => .inl (.inr (.inr hj))
  refine ⟨blk_kept (blk_kept h.df a.k.kept (by omega)) u.kept (by omega), blk_kept h1 k0 (by omega), ?_, k2⟩
  have q : Below w0.heap.size W3 (W'.putObj D (.deferred none)) := ⟨u.os.trans a.k.os, u.tape.trans a.k.tape, u.output.trans a.k.output, k2.1, fun k hk => k2.2 k (by have := h.b.size; omega) (by omega)⟩
  exact h.b.trans q
theorem parse_t0 {A : Option Addr} {c : Nat} {l : List Int} {w0 : World} (hr : Kd.C (Kd.int .u8) w0 A l.length l) (hc : l.length ≤ c) (hs : l.length ≤ 1000000) (hb : isBytes l) :
    Calls Try.prog 12 #[.int .i64 0, .int .u8 20, .slice A l.length c] w0 fun en w' => ∃ cx, en = .returned (.tuple #[.agg cx, .int .i64 (outc 20 (body rd0 may0 l)).2]) ∧ IsMsg w' cx (outc 20 (body rd0 may0 l)).1 ∧ Below w0.heap.size w0 w' := by
  have HR := Aside0.mk hr
  have HC := Aside0.mk hc
  have HS := Aside0.mk hs
  have HBB := Aside0.mk hb
  clear hr hc hs hb
  refine (callsIn_wide (n := 7)).1 (callsIn_of_wp_marks Try.func12 rfl trivial (wpIn_wide.2 ?_) rfl)
  simp only [Try.ntmps12, List.size_toArray, List.length_cons, List.length_nil, Nat.reduceAdd, Nat.reduceSub, Array.replicate_succ, Array.replicate_zero, List.push_toArray, List.append_toArray, List.nil_append, List.cons_append]
  go_upto_region 3 with (first | ((with_reducible refine gate_dst (N := 6) rfl ?_); refine ev_alloc rfl rfl ?_; intro gr w1 hg_ h1_ h2_; have HG := Aside0.mk hg_; have H1 := Aside0.mk h1_; have H2 := Aside0.mk h2_; clear hg_ h1_ h2_))
  go_upto_region 4 with (first | (go_at_call 19; (with_reducible refine (rules_0 _).mono ?_); rintro en x1 ⟨sb, rfl, a1_, a2_, a3_⟩; have S1 := Aside0.mk a1_; have S2 := Aside0.mk a2_; have S3 := Aside0.mk a3_; clear a1_ a2_ a3_) | ((with_reducible refine gate_dst (N := 8) rfl ?_); refine ev_rule rfl rfl ?_; intro br w2 hg_ h1_ h2_; have R1 := Aside0.mk hg_; have R2 := Aside0.mk h1_; have R3 := Aside0.mk h2_; clear hg_ h1_ h2_) | ((with_reducible refine gate_op (u := .store 51 (.tmp 8) (.tmp 27)) rfl ?_); refine Same.wpList_store_row 51 (.tmp 8) (.tmp 27) rfl rfl rfl rfl R2.out rfl (by kernel_rfl) funcs_one ?_; intro W1 h3_ h4_; have HPR := Aside0.mk (Pr.mk' HG.out H1.out H2.out S1.out S2.out S3.out R1.out R3.out h3_ h4_); clear h3_ h4_ HG H1 H2 S1 S2 S3 R1 R2 R3))
  go_upto_region 6 with (fail)
  go_upto_region 7 with (first | (go_at_call 20; (with_reducible refine (p_new A c l _ (Kd.C_below HR.out HPR.out.b) HC.out HS.out HBB.out).mono ?_); rintro en x2 ⟨g, rfl, q1_, q2_, q3_, q4_⟩; have HN := Aside0.mk (show Nw2 W1 g x2 (cu l) from ⟨q3_, ⟨_, q2_, Nat.le_refl _⟩, q1_⟩); clear q1_ q2_ q3_ q4_))
  obtain ⟨n, en_⟩ : ∃ z, z = (cu l).byteV := ⟨_, rfl⟩
  have EN := Aside0.mk en_
  obtain ⟨l0, h0⟩ := Cu.byteV_bd (Nw2.good HN.out)
  rw [← en_] at l0 h0
  clear en_
  go_upto_region 8 with (first | (go_at_call 21; (with_reducible refine (Nw2.byte HN.out).mono ?_); rintro en x3 ⟨rfl, hp_⟩; rw [← EN.out]; obtain ⟨c1, ec_⟩ : ∃ z, z = (cu l).byteS := ⟨_, rfl⟩; rw [← ec_] at hp_; have Ec1 := Aside0.mk ec_; clear ec_; have n0_ := Aside0.mk hp_; clear HN hp_; have HN := n0_; clear n0_))
  have kf : World.cell? _ ⟨br, 0, none⟩ = some (Value.func (.func 36) #[] #[]) := blk_cell (blk_below HPR.out.rl HN.out.b) 0
  go_upto_region 9 with (first | (go_at_call 36; (with_reducible refine (may0_any l0 h0 _).mono ?_); rintro en x4 ⟨rfl, hb_⟩; have n0_ := Aside0.mk (HN.out.below hb_); clear HN hb_ kf; have HN := n0_; clear n0_) | (go_at_call 22; (with_reducible refine (Nw2.need HN.out (may0 n) 5).mono ?_); rintro en x5 ⟨rfl, hp_⟩; obtain ⟨c2, ec_⟩ : ∃ z, z = c1.need (may0 n) 5 := ⟨_, rfl⟩; rw [← ec_] at hp_; have Ec2 := Aside0.mk ec_; clear ec_; have n0_ := Aside0.mk hp_; clear HN hp_; have HN := n0_; clear n0_))
  have HG2 := Aside0.mk (Nw2.good HN.out)
  go_upto_region 10 with (first | (go_at_call 23; (with_reducible refine (Nw2.bytes HN.out n).mono ?_); rintro en x6 ⟨A5, n5, rfl, hz_, hr_, hp_⟩; obtain ⟨c3, ec_⟩ : ∃ z, z = c2.bytesS n := ⟨_, rfl⟩; rw [← ec_] at hp_; have Ec3 := Aside0.mk ec_; clear ec_; have RZ := Aside0.mk hz_; have RR := Aside0.mk hr_; have n0_ := Aside0.mk hp_; clear HN hp_ hz_ hr_; have HN := n0_; clear n0_) | (go_at_call 20; (with_reducible refine (p_new A5 n5 (c2.bytesV n) _ RR.out RZ.out (bytesV_len HG2.out n) (Cu.bytes_bytesV HG2.out n)).mono ?_); rintro en x7 ⟨gb, rfl, q1_, q2_, q3_, q4_⟩; have B1 := Aside0.mk q1_; have B2 := Aside0.mk q2_; have B3 := Aside0.mk q3_; have n0_ := Aside0.mk (HN.out.below q3_); have HN6 := HN; clear HN q1_ q2_ q3_ q4_; have HN := n0_; clear n0_))
  go_upto_region 11 with (first | ((with_reducible refine gate_dst (N := 48) rfl ?_); refine ev_build (codeC 20) rfl (by go_simp; first | rfl | done) ?_; intro cx hcx_; subst hcx_) | ((with_reducible refine gate_dst (N := 13) rfl ?_); refine ev_var (y := .tmp 48) rfl rfl rfl rfl rfl (codeC_is (code := 20) (by decide) w0) rfl rfl ?_; intro gm x8 hg_ h1_ hb_; have M1 := Aside0.mk hg_; have M2 := Aside0.mk h1_; have M3 := Aside0.mk hb_; have n0_ := Aside0.mk (HN.out.below hb_); clear HN hg_ h1_ hb_; have HN := n0_; clear n0_))
  have kf : World.cell? _ ⟨br, 1, none⟩ = some (Value.func (.func 34) #[] #[.pointer (some ⟨sb, 0, none⟩)]) := blk_cell (blk_below HPR.out.rl HN.out.b) 1
  go_wp2_with (first | (go_at_call 24; (with_reducible refine (full_mk gb 34 #[.pointer (some ⟨sb, 0, none⟩)] _).mono ?_); rintro en x9 ⟨b2, b3, rfl, a1_, a2_, a3_, a4_, a5_, a6_, a7_, a8_⟩; have F1 := Aside0.mk a1_; have F2 := Aside0.mk a2_; have F3 := Aside0.mk a3_; have F4 := Aside0.mk a4_; have F5 := Aside0.mk a5_; have F6 := Aside0.mk a6_; have F7 := Aside0.mk a7_; have F8 := Aside0.mk a8_; clear a1_ a2_ a3_ a4_ a5_ a6_ a7_ a8_ kf))
  have LT := Aside0.mk (lts_of HPR.out HN6.out B1.out B2.out B3.out M1.out M3.out M2.out F8.out)
  refine range_law (rd := rd0) (q := 14) (gb := gb) (gm := gm) (sb := sb) (lo := _) (hi := gb) (N := (c2.bytesV n).length) (code := 20) (c0 := cu (c2.bytesV n)) (lb := #[.pointer (some ⟨b2, 0, none⟩), .pointer (some ⟨b3, 0, none⟩)]) rfl LT.out.lay LT.out.lt ((B2.out.below M3.out).below F8.out) (blk_below HPR.out.sm (LT.out.b1)) (blk_below M2.out F8.out) (Nat.le_refl _) ?hit ?assign ?body ?done
  case hit =>
    intro W0 rec hb_ hz_
    have o_ := LT.out.od
    have m_ := blk_lt M2.out
    have f_ := F1.out
    have g_ := F2.out
    have j_ := F3.out
    have k_ := F4.out
    exact iter0 (by rw [hz_]; exact LT.out.lay) ⟨(hb_.cell (p := ⟨b2, 0, none⟩) F3.out).trans F5.out, (hb_.cell (p := ⟨b3, 0, none⟩) F4.out).trans F6.out, by omega, by omega⟩
  case assign =>
    intro l_ r_ W_ K_ hK_
    simp only [List.setIfInBounds_toArray, List.set_cons_zero, List.set_cons_succ] at hK_ ⊢
    gi_wp2
    exact hK_ _ _ rfl (blk_new _ _) (below_alloc (Below.refl _ _) _)
  case body =>
    intro l_ bx_ W0 rec_ W_ c_ s_ os_ raws_ v_ r_ x_ L_ hLS_ hg_ hx_ hb_ hk_
    simp only [List.setIfInBounds_toArray, List.set_cons_zero, List.set_cons_succ]
    obtain ⟨A9, n9, rfl, _, _⟩ := Kd.R_reads hLS_.row
    have k15 := hLS_.at_list.1
    have f15 := hLS_.at_list.2
    have HL_ := Aside0.mk hLS_
    have LL_ := Aside0.mk L_
    have HG_ := Aside0.mk hg_
    have HX_ := Aside0.mk hx_
    have HB_ := Aside0.mk hb_
    have HK_ := Aside0.mk (show W_.heap[bx_]? = some (.cells #[.int .u16 r_.f0, .int .u16 r_.f1, .int .u16 r_.f2, .slice r_.A r_.n r_.c] 43 (0, 0)) from hk_)
    clear hLS_ L_ hg_ hx_ hb_ hk_
    gi_wp2_with (first | ((with_reducible refine gateIn_dst (N := 56) rfl ?_); refine loadIn_row rfl 43 (.tmp 14) rfl bx_ rfl 43 _ (0, 0) _ HK_.out Try.underlying43 rfl (rec_info rfl) ?_) | ((with_reducible refine gateIn_dst (N := 58) rfl ?_); gi_at_builtin; refine R_append_in kRawR (w0 := W_) (W := W_) W0.heap.size rfl (.tmp 55) (.tmp 57) 27 43 (.agg recZ) 32 rfl Try.underlying27 (by kernel_rfl) rfl (by decide) (by decide) (.slice A9 raws_.length n9) raws_ r_ [Value.int .u16 r_.f0, .int .u16 r_.f1, .int .u16 r_.f2, .slice r_.A r_.n r_.c] (fun k => W0.heap.size ≤ k) (fun _ => False) rfl rfl rfl (fun _ h => h.elim) (fun k hk => Nat.le_trans HL_.out.up.kept.1 hk) HL_.out.row ⟨rfl, rfl, rfl, Nat.le_refl _, fun _ _ => rfl⟩ HL_.out.up.kept.1 (by have := HL_.out.few; omega) ?_; intro v1 y3 r1_ hb1 g1_ hv1_; obtain ⟨A8, n8, e8, _, _⟩ := Kd.R_reads r1_; obtain ⟨N8, hN8⟩ : ∃ z, z = (raws_ ++ [r_]).length := ⟨_, rfl⟩; rw [← hN8] at e8; subst e8; clear hN8; have R1 := Aside0.mk r1_; have G1 := Aside0.mk g1_; have V1 := Aside0.mk hv1_; have kl := (HL_.out.at_list' LL_.out g1_).1; have fl := (HL_.out.at_list' LL_.out g1_).2; clear r1_ g1_ hv1_ hb1 k15 f15))
    exact ⟨_, HL_.out.push LL_.out HG_.out HX_.out HB_.out R1.out G1.out V1.out⟩
  case done =>
    intro W0 W3 l_ rec_ cb s_ os raws v hb_ hz_ hl_ hLS_ hD_ hcb_ hos_
    obtain ⟨lo, cx, ha_⟩ := aft_of HPR.out HN.out F8.out LT.out hb_ hz_ hl_ hLS_ hD_ (by decide)
    have HA := Aside0.mk ha_
    have HF := Aside0.mk ha_.af
    have HCB := Aside0.mk hLS_.cur
    have HE1 := Aside0.mk hcb_
    have HE2 := Aside0.mk hos_
    clear hb_ hz_ hl_ hLS_ hD_ ha_ hcb_ hos_ LT HPR HN HN6 F1 F2 F3 F4 F5 F6 F7 F8 M1 M2 M3 B1 B2 B3 RZ RR
    obtain ⟨D, hd_⟩ : ∃ z, z = x9.heap.size := ⟨_, rfl⟩
    rw [← hd_] at HA ⊢
    clear hd_
    go_upto_region 15 with (first | (go_at_call 25; (with_reducible refine (p_err HCB.out).mono ?_); rintro en y1 ⟨rfl, rfl⟩) | (go_at_call 26; (with_reducible refine (within_any cb.e _).mono ?_); rintro en y2 ⟨rfl, hb_⟩; have n0_ := Aside0.mk (HF.out.below hb_); clear HF hb_; have HF := n0_; clear n0_) | (go_at_call 22; (with_reducible refine (Af.need HF.out (cb.e == 0) (within cb.e)).mono ?_); rintro en y3 ⟨rfl, hp_⟩; obtain ⟨c4, ec_⟩ : ∃ z, z = c3.need (cb.e == 0) (within cb.e) := ⟨_, rfl⟩; rw [← ec_] at hp_; have Ec4 := Aside0.mk ec_; clear ec_; have n0_ := Aside0.mk hp_; clear HF hp_; have HF := n0_; clear n0_))
    go_upto_region 16 with (first | (go_at_call 27; (with_reducible refine (Af.fin HF.out).mono ?_); rintro en y4 ⟨rfl, hp_⟩; obtain ⟨c5, ec_⟩ : ∃ z, z = c4.fin := ⟨_, rfl⟩; rw [← ec_] at hp_; have Ec5 := Aside0.mk ec_; clear ec_; have n0_ := Aside0.mk hp_; clear HF hp_; have HF := n0_; clear n0_))
    go_upto_region 17 with (first | (go_at_call 25; (with_reducible refine (p_err HF.out.cur).mono ?_); rintro en y5 ⟨rfl, rfl⟩))
    have EB : Aside0 (body rd0 may0 l = (c4, (partsG rd0 (c2.bytesV n).length 0 (cu (c2.bytesV n))).2)) := ⟨by simp only [body]; rw [← EN.out, ← Ec1.out, ← Ec2.out, ← Ec3.out, ← HE1.out, ← Ec4.out]⟩
    by_cases h9 : c5.e = 0
    · have g1 : (c5.e != 0) = false := by rw [h9]; rfl
      have h4_ : c4.e = 0 := (fin_ok (by rw [← Ec5.out]; exact h9)).1
      have h5_ : cb.e = 0 := by
        obtain ⟨_, e_, _⟩ := need_ok' (c := c3) (ok := (cb.e == 0)) (f := within cb.e) (fun e_ => by rw [within_ne e_]; rfl) (by rw [← Ec4.out]; exact h4_)
        simpa using e_
      have EX : Aside0 (outc 20 (body rd0 may0 l) = ({ zeroM with code := 20, recs := os }, 0)) := ⟨by simp only [outc]; rw [EB.out]; simp only []; rw [← Ec5.out, if_neg (fun h => h h9), HE2.out h5_]⟩
      clear h4_ h5_ h9
      have SZ := Aside0.mk (IsMsg.size (HA.out.is _ (Kept.refl _ _)))
      have ON := Aside0.mk (IsMsg.one (HA.out.is _ (Kept.refl _ _)))
      go_wp2_with (first | ((with_reducible refine gate_dst (N := 76) rfl ?_); refine wpList_load_row rfl 30 (.tmp 13) rfl gm rfl 30 cx (0, 0) _ (blk_kept HA.out.mg HF.out.k.kept HA.out.ne.2.1) Try.underlying30 rfl (msg_info SZ.out) ?_) | ((with_reducible refine gate_op (u := .store 30 (.tmp 6) (.tmp 76)) rfl ?_); refine Same.wpList_store_row 30 (.tmp 6) (.tmp 76) rfl rfl rfl rfl (blk_kept HA.out.res HF.out.k.kept HA.out.ne.1) SZ.out.symm (msg_info SZ.out) ON.out ?_; intro y9 h3_ h4_; have HZ := Aside0.mk (Aft.fin HA.out HF.out h4_ h3_); clear h3_ h4_))
      refine ⟨by simp, .inl ⟨_, _, rfl, run_takeDeferred HZ.out.1, ?_⟩⟩
      refine ⟨_, results_ct rfl _ _ gr 30 cx (0, 0) _ rfl HZ.out.2.1 Try.underlying30 rfl (msg_info SZ.out), ?_⟩
      rw [EX.out]
      exact ⟨cx, rfl, HA.out.is _ HZ.out.2.2.2, HZ.out.2.2.1⟩
    · have g1 : (c5.e != 0) = true := by simpa using h9
      have EX : Aside0 (outc 20 (body rd0 may0 l) = (zeroM, c5.e)) := ⟨by simp only [outc]; rw [EB.out]; simp only []; rw [← Ec5.out, if_pos h9]⟩
      clear h9
      go_wp2_with (first | ((with_reducible refine gate_dst (N := 74) rfl ?_); refine ev_build (zeroC) rfl (by go_simp; first | rfl | done) ?_; intro cz hcz_; have CZ := Aside0.mk hcz_; clear hcz_) | ((with_reducible refine gate_op (u := .store 30 (.tmp 6) (.tmp 74)) rfl ?_); refine Same.wpList_store_row 30 (.tmp 6) (.tmp 74) rfl rfl rfl rfl (blk_kept HA.out.res HF.out.k.kept HA.out.ne.1) (by rw [CZ.out]) (msg_info (by rw [CZ.out]; rfl)) (by rw [CZ.out]; exact (zero_is w0).one) ?_; intro y9 h3_ h4_; have HZ := Aside0.mk (Aft.fin HA.out HF.out h4_ h3_); clear h3_ h4_))
      refine ⟨by simp, .inl ⟨_, _, rfl, run_takeDeferred HZ.out.1, ?_⟩⟩
      refine ⟨_, results_ct rfl _ _ gr 30 cz (0, 0) _ rfl HZ.out.2.1 Try.underlying30 rfl (msg_info (by rw [CZ.out]; rfl)), ?_⟩
      rw [EX.out]
      exact ⟨cz, rfl, by rw [CZ.out]; exact zero_is _, HZ.out.2.2.1⟩
theorem parse_t1 {A : Option Addr} {c : Nat} {l : List Int} {w0 : World} (hr : Kd.C (Kd.int .u8) w0 A l.length l) (hc : l.length ≤ c) (hs : l.length ≤ 1000000) (hb : isBytes l) :
    Calls Try.prog 12 #[.int .i64 1, .int .u8 20, .slice A l.length c] w0 fun en w' => ∃ cx, en = .returned (.tuple #[.agg cx, .int .i64 (outc 20 (body rd1 may1 l)).2]) ∧ IsMsg w' cx (outc 20 (body rd1 may1 l)).1 ∧ Below w0.heap.size w0 w' := by
  have HR := Aside0.mk hr
  have HC := Aside0.mk hc
  have HS := Aside0.mk hs
  have HBB := Aside0.mk hb
  clear hr hc hs hb
  refine (callsIn_wide (n := 7)).1 (callsIn_of_wp_marks Try.func12 rfl trivial (wpIn_wide.2 ?_) rfl)
  simp only [Try.ntmps12, List.size_toArray, List.length_cons, List.length_nil, Nat.reduceAdd, Nat.reduceSub, Array.replicate_succ, Array.replicate_zero, List.push_toArray, List.append_toArray, List.nil_append, List.cons_append]
  go_upto_region 3 with (first | ((with_reducible refine gate_dst (N := 6) rfl ?_); refine ev_alloc rfl rfl ?_; intro gr w1 hg_ h1_ h2_; have HG := Aside0.mk hg_; have H1 := Aside0.mk h1_; have H2 := Aside0.mk h2_; clear hg_ h1_ h2_))
  go_upto_region 4 with (first | (go_at_call 19; (with_reducible refine (rules_1 _).mono ?_); rintro en x1 ⟨sb, rfl, a1_, a2_, a3_⟩; have S1 := Aside0.mk a1_; have S2 := Aside0.mk a2_; have S3 := Aside0.mk a3_; clear a1_ a2_ a3_) | ((with_reducible refine gate_dst (N := 8) rfl ?_); refine ev_rule rfl rfl ?_; intro br w2 hg_ h1_ h2_; have R1 := Aside0.mk hg_; have R2 := Aside0.mk h1_; have R3 := Aside0.mk h2_; clear hg_ h1_ h2_) | ((with_reducible refine gate_op (u := .store 51 (.tmp 8) (.tmp 27)) rfl ?_); refine Same.wpList_store_row 51 (.tmp 8) (.tmp 27) rfl rfl rfl rfl R2.out rfl (by kernel_rfl) funcs_one ?_; intro W1 h3_ h4_; have HPR := Aside0.mk (Pr.mk' HG.out H1.out H2.out S1.out S2.out S3.out R1.out R3.out h3_ h4_); clear h3_ h4_ HG H1 H2 S1 S2 S3 R1 R2 R3))
  go_upto_region 6 with (fail)
  go_upto_region 7 with (first | (go_at_call 20; (with_reducible refine (p_new A c l _ (Kd.C_below HR.out HPR.out.b) HC.out HS.out HBB.out).mono ?_); rintro en x2 ⟨g, rfl, q1_, q2_, q3_, q4_⟩; have HN := Aside0.mk (show Nw2 W1 g x2 (cu l) from ⟨q3_, ⟨_, q2_, Nat.le_refl _⟩, q1_⟩); clear q1_ q2_ q3_ q4_))
  obtain ⟨n, en_⟩ : ∃ z, z = (cu l).byteV := ⟨_, rfl⟩
  have EN := Aside0.mk en_
  obtain ⟨l0, h0⟩ := Cu.byteV_bd (Nw2.good HN.out)
  rw [← en_] at l0 h0
  clear en_
  go_upto_region 8 with (first | (go_at_call 21; (with_reducible refine (Nw2.byte HN.out).mono ?_); rintro en x3 ⟨rfl, hp_⟩; rw [← EN.out]; obtain ⟨c1, ec_⟩ : ∃ z, z = (cu l).byteS := ⟨_, rfl⟩; rw [← ec_] at hp_; have Ec1 := Aside0.mk ec_; clear ec_; have n0_ := Aside0.mk hp_; clear HN hp_; have HN := n0_; clear n0_))
  have kf : World.cell? _ ⟨br, 0, none⟩ = some (Value.func (.func 37) #[] #[]) := blk_cell (blk_below HPR.out.rl HN.out.b) 0
  go_upto_region 9 with (first | (go_at_call 37; (with_reducible refine (may1_any l0 h0 _).mono ?_); rintro en x4 ⟨rfl, hb_⟩; have n0_ := Aside0.mk (HN.out.below hb_); clear HN hb_ kf; have HN := n0_; clear n0_) | (go_at_call 22; (with_reducible refine (Nw2.need HN.out (may1 n) 5).mono ?_); rintro en x5 ⟨rfl, hp_⟩; obtain ⟨c2, ec_⟩ : ∃ z, z = c1.need (may1 n) 5 := ⟨_, rfl⟩; rw [← ec_] at hp_; have Ec2 := Aside0.mk ec_; clear ec_; have n0_ := Aside0.mk hp_; clear HN hp_; have HN := n0_; clear n0_))
  have HG2 := Aside0.mk (Nw2.good HN.out)
  go_upto_region 10 with (first | (go_at_call 23; (with_reducible refine (Nw2.bytes HN.out n).mono ?_); rintro en x6 ⟨A5, n5, rfl, hz_, hr_, hp_⟩; obtain ⟨c3, ec_⟩ : ∃ z, z = c2.bytesS n := ⟨_, rfl⟩; rw [← ec_] at hp_; have Ec3 := Aside0.mk ec_; clear ec_; have RZ := Aside0.mk hz_; have RR := Aside0.mk hr_; have n0_ := Aside0.mk hp_; clear HN hp_ hz_ hr_; have HN := n0_; clear n0_) | (go_at_call 20; (with_reducible refine (p_new A5 n5 (c2.bytesV n) _ RR.out RZ.out (bytesV_len HG2.out n) (Cu.bytes_bytesV HG2.out n)).mono ?_); rintro en x7 ⟨gb, rfl, q1_, q2_, q3_, q4_⟩; have B1 := Aside0.mk q1_; have B2 := Aside0.mk q2_; have B3 := Aside0.mk q3_; have n0_ := Aside0.mk (HN.out.below q3_); have HN6 := HN; clear HN q1_ q2_ q3_ q4_; have HN := n0_; clear n0_))
  go_upto_region 11 with (first | ((with_reducible refine gate_dst (N := 48) rfl ?_); refine ev_build (codeC 20) rfl (by go_simp; first | rfl | done) ?_; intro cx hcx_; subst hcx_) | ((with_reducible refine gate_dst (N := 13) rfl ?_); refine ev_var (y := .tmp 48) rfl rfl rfl rfl rfl (codeC_is (code := 20) (by decide) w0) rfl rfl ?_; intro gm x8 hg_ h1_ hb_; have M1 := Aside0.mk hg_; have M2 := Aside0.mk h1_; have M3 := Aside0.mk hb_; have n0_ := Aside0.mk (HN.out.below hb_); clear HN hg_ h1_ hb_; have HN := n0_; clear n0_))
  have kf : World.cell? _ ⟨br, 1, none⟩ = some (Value.func (.func 38) #[] #[]) := blk_cell (blk_below HPR.out.rl HN.out.b) 1
  go_wp2_with (first | (go_at_call 24; (with_reducible refine (full_mk gb 38 #[] _).mono ?_); rintro en x9 ⟨b2, b3, rfl, a1_, a2_, a3_, a4_, a5_, a6_, a7_, a8_⟩; have F1 := Aside0.mk a1_; have F2 := Aside0.mk a2_; have F3 := Aside0.mk a3_; have F4 := Aside0.mk a4_; have F5 := Aside0.mk a5_; have F6 := Aside0.mk a6_; have F7 := Aside0.mk a7_; have F8 := Aside0.mk a8_; clear a1_ a2_ a3_ a4_ a5_ a6_ a7_ a8_ kf))
  have LT := Aside0.mk (lts_of HPR.out HN6.out B1.out B2.out B3.out M1.out M3.out M2.out F8.out)
  refine range_law (rd := rd1) (q := 14) (gb := gb) (gm := gm) (sb := sb) (lo := _) (hi := gb) (N := (c2.bytesV n).length) (code := 20) (c0 := cu (c2.bytesV n)) (lb := #[.pointer (some ⟨b2, 0, none⟩), .pointer (some ⟨b3, 0, none⟩)]) rfl LT.out.lay LT.out.lt ((B2.out.below M3.out).below F8.out) (blk_below HPR.out.sm (LT.out.b1)) (blk_below M2.out F8.out) (Nat.le_refl _) ?hit ?assign ?body ?done
  case hit =>
    intro W0 rec hb_ hz_
    have o_ := LT.out.od
    have m_ := blk_lt M2.out
    have f_ := F1.out
    have g_ := F2.out
    have j_ := F3.out
    have k_ := F4.out
    exact iter1 (by rw [hz_]; exact LT.out.lay) ⟨(hb_.cell (p := ⟨b2, 0, none⟩) F3.out).trans F5.out, (hb_.cell (p := ⟨b3, 0, none⟩) F4.out).trans F6.out, by omega, by omega⟩
  case assign =>
    intro l_ r_ W_ K_ hK_
    simp only [List.setIfInBounds_toArray, List.set_cons_zero, List.set_cons_succ] at hK_ ⊢
    gi_wp2
    exact hK_ _ _ rfl (blk_new _ _) (below_alloc (Below.refl _ _) _)
  case body =>
    intro l_ bx_ W0 rec_ W_ c_ s_ os_ raws_ v_ r_ x_ L_ hLS_ hg_ hx_ hb_ hk_
    simp only [List.setIfInBounds_toArray, List.set_cons_zero, List.set_cons_succ]
    obtain ⟨A9, n9, rfl, _, _⟩ := Kd.R_reads hLS_.row
    have k15 := hLS_.at_list.1
    have f15 := hLS_.at_list.2
    have HL_ := Aside0.mk hLS_
    have LL_ := Aside0.mk L_
    have HG_ := Aside0.mk hg_
    have HX_ := Aside0.mk hx_
    have HB_ := Aside0.mk hb_
    have HK_ := Aside0.mk (show W_.heap[bx_]? = some (.cells #[.int .u16 r_.f0, .int .u16 r_.f1, .int .u16 r_.f2, .slice r_.A r_.n r_.c] 43 (0, 0)) from hk_)
    clear hLS_ L_ hg_ hx_ hb_ hk_
    gi_wp2_with (first | ((with_reducible refine gateIn_dst (N := 56) rfl ?_); refine loadIn_row rfl 43 (.tmp 14) rfl bx_ rfl 43 _ (0, 0) _ HK_.out Try.underlying43 rfl (rec_info rfl) ?_) | ((with_reducible refine gateIn_dst (N := 58) rfl ?_); gi_at_builtin; refine R_append_in kRawR (w0 := W_) (W := W_) W0.heap.size rfl (.tmp 55) (.tmp 57) 27 43 (.agg recZ) 32 rfl Try.underlying27 (by kernel_rfl) rfl (by decide) (by decide) (.slice A9 raws_.length n9) raws_ r_ [Value.int .u16 r_.f0, .int .u16 r_.f1, .int .u16 r_.f2, .slice r_.A r_.n r_.c] (fun k => W0.heap.size ≤ k) (fun _ => False) rfl rfl rfl (fun _ h => h.elim) (fun k hk => Nat.le_trans HL_.out.up.kept.1 hk) HL_.out.row ⟨rfl, rfl, rfl, Nat.le_refl _, fun _ _ => rfl⟩ HL_.out.up.kept.1 (by have := HL_.out.few; omega) ?_; intro v1 y3 r1_ hb1 g1_ hv1_; obtain ⟨A8, n8, e8, _, _⟩ := Kd.R_reads r1_; obtain ⟨N8, hN8⟩ : ∃ z, z = (raws_ ++ [r_]).length := ⟨_, rfl⟩; rw [← hN8] at e8; subst e8; clear hN8; have R1 := Aside0.mk r1_; have G1 := Aside0.mk g1_; have V1 := Aside0.mk hv1_; have kl := (HL_.out.at_list' LL_.out g1_).1; have fl := (HL_.out.at_list' LL_.out g1_).2; clear r1_ g1_ hv1_ hb1 k15 f15))
    exact ⟨_, HL_.out.push LL_.out HG_.out HX_.out HB_.out R1.out G1.out V1.out⟩
  case done =>
    intro W0 W3 l_ rec_ cb s_ os raws v hb_ hz_ hl_ hLS_ hD_ hcb_ hos_
    obtain ⟨lo, cx, ha_⟩ := aft_of HPR.out HN.out F8.out LT.out hb_ hz_ hl_ hLS_ hD_ (by decide)
    have HA := Aside0.mk ha_
    have HF := Aside0.mk ha_.af
    have HCB := Aside0.mk hLS_.cur
    have HE1 := Aside0.mk hcb_
    have HE2 := Aside0.mk hos_
    clear hb_ hz_ hl_ hLS_ hD_ ha_ hcb_ hos_ LT HPR HN HN6 F1 F2 F3 F4 F5 F6 F7 F8 M1 M2 M3 B1 B2 B3 RZ RR
    obtain ⟨D, hd_⟩ : ∃ z, z = x9.heap.size := ⟨_, rfl⟩
    rw [← hd_] at HA ⊢
    clear hd_
    go_upto_region 15 with (first | (go_at_call 25; (with_reducible refine (p_err HCB.out).mono ?_); rintro en y1 ⟨rfl, rfl⟩) | (go_at_call 26; (with_reducible refine (within_any cb.e _).mono ?_); rintro en y2 ⟨rfl, hb_⟩; have n0_ := Aside0.mk (HF.out.below hb_); clear HF hb_; have HF := n0_; clear n0_) | (go_at_call 22; (with_reducible refine (Af.need HF.out (cb.e == 0) (within cb.e)).mono ?_); rintro en y3 ⟨rfl, hp_⟩; obtain ⟨c4, ec_⟩ : ∃ z, z = c3.need (cb.e == 0) (within cb.e) := ⟨_, rfl⟩; rw [← ec_] at hp_; have Ec4 := Aside0.mk ec_; clear ec_; have n0_ := Aside0.mk hp_; clear HF hp_; have HF := n0_; clear n0_))
    go_upto_region 16 with (first | (go_at_call 27; (with_reducible refine (Af.fin HF.out).mono ?_); rintro en y4 ⟨rfl, hp_⟩; obtain ⟨c5, ec_⟩ : ∃ z, z = c4.fin := ⟨_, rfl⟩; rw [← ec_] at hp_; have Ec5 := Aside0.mk ec_; clear ec_; have n0_ := Aside0.mk hp_; clear HF hp_; have HF := n0_; clear n0_))
    go_upto_region 17 with (first | (go_at_call 25; (with_reducible refine (p_err HF.out.cur).mono ?_); rintro en y5 ⟨rfl, rfl⟩))
    have EB : Aside0 (body rd1 may1 l = (c4, (partsG rd1 (c2.bytesV n).length 0 (cu (c2.bytesV n))).2)) := ⟨by simp only [body]; rw [← EN.out, ← Ec1.out, ← Ec2.out, ← Ec3.out, ← HE1.out, ← Ec4.out]⟩
    by_cases h9 : c5.e = 0
    · have g1 : (c5.e != 0) = false := by rw [h9]; rfl
      have h4_ : c4.e = 0 := (fin_ok (by rw [← Ec5.out]; exact h9)).1
      have h5_ : cb.e = 0 := by
        obtain ⟨_, e_, _⟩ := need_ok' (c := c3) (ok := (cb.e == 0)) (f := within cb.e) (fun e_ => by rw [within_ne e_]; rfl) (by rw [← Ec4.out]; exact h4_)
        simpa using e_
      have EX : Aside0 (outc 20 (body rd1 may1 l) = ({ zeroM with code := 20, recs := os }, 0)) := ⟨by simp only [outc]; rw [EB.out]; simp only []; rw [← Ec5.out, if_neg (fun h => h h9), HE2.out h5_]⟩
      clear h4_ h5_ h9
      have SZ := Aside0.mk (IsMsg.size (HA.out.is _ (Kept.refl _ _)))
      have ON := Aside0.mk (IsMsg.one (HA.out.is _ (Kept.refl _ _)))
      go_wp2_with (first | ((with_reducible refine gate_dst (N := 76) rfl ?_); refine wpList_load_row rfl 30 (.tmp 13) rfl gm rfl 30 cx (0, 0) _ (blk_kept HA.out.mg HF.out.k.kept HA.out.ne.2.1) Try.underlying30 rfl (msg_info SZ.out) ?_) | ((with_reducible refine gate_op (u := .store 30 (.tmp 6) (.tmp 76)) rfl ?_); refine Same.wpList_store_row 30 (.tmp 6) (.tmp 76) rfl rfl rfl rfl (blk_kept HA.out.res HF.out.k.kept HA.out.ne.1) SZ.out.symm (msg_info SZ.out) ON.out ?_; intro y9 h3_ h4_; have HZ := Aside0.mk (Aft.fin HA.out HF.out h4_ h3_); clear h3_ h4_))
      refine ⟨by simp, .inl ⟨_, _, rfl, run_takeDeferred HZ.out.1, ?_⟩⟩
      refine ⟨_, results_ct rfl _ _ gr 30 cx (0, 0) _ rfl HZ.out.2.1 Try.underlying30 rfl (msg_info SZ.out), ?_⟩
      rw [EX.out]
      exact ⟨cx, rfl, HA.out.is _ HZ.out.2.2.2, HZ.out.2.2.1⟩
    · have g1 : (c5.e != 0) = true := by simpa using h9
      have EX : Aside0 (outc 20 (body rd1 may1 l) = (zeroM, c5.e)) := ⟨by simp only [outc]; rw [EB.out]; simp only []; rw [← Ec5.out, if_pos h9]⟩
      clear h9
      go_wp2_with (first | ((with_reducible refine gate_dst (N := 74) rfl ?_); refine ev_build (zeroC) rfl (by go_simp; first | rfl | done) ?_; intro cz hcz_; have CZ := Aside0.mk hcz_; clear hcz_) | ((with_reducible refine gate_op (u := .store 30 (.tmp 6) (.tmp 74)) rfl ?_); refine Same.wpList_store_row 30 (.tmp 6) (.tmp 74) rfl rfl rfl rfl (blk_kept HA.out.res HF.out.k.kept HA.out.ne.1) (by rw [CZ.out]) (msg_info (by rw [CZ.out]; rfl)) (by rw [CZ.out]; exact (zero_is w0).one) ?_; intro y9 h3_ h4_; have HZ := Aside0.mk (Aft.fin HA.out HF.out h4_ h3_); clear h3_ h4_))
      refine ⟨by simp, .inl ⟨_, _, rfl, run_takeDeferred HZ.out.1, ?_⟩⟩
      refine ⟨_, results_ct rfl _ _ gr 30 cz (0, 0) _ rfl HZ.out.2.1 Try.underlying30 rfl (msg_info (by rw [CZ.out]; rfl)), ?_⟩
      rw [EX.out]
      exact ⟨cz, rfl, by rw [CZ.out]; exact zero_is _, HZ.out.2.2.1⟩
theorem parse_t2 {A : Option Addr} {c : Nat} {l : List Int} {w0 : World} (hr : Kd.C (Kd.int .u8) w0 A l.length l) (hc : l.length ≤ c) (hs : l.length ≤ 1000000) (hb : isBytes l) :
    Calls Try.prog 12 #[.int .i64 0, .int .u8 21, .slice A l.length c] w0 fun en w' => ∃ cx, en = .returned (.tuple #[.agg cx, .int .i64 (outc 21 (body rd2 may2 l)).2]) ∧ IsMsg w' cx (outc 21 (body rd2 may2 l)).1 ∧ Below w0.heap.size w0 w' := by
  have HR := Aside0.mk hr
  have HC := Aside0.mk hc
  have HS := Aside0.mk hs
  have HBB := Aside0.mk hb
  clear hr hc hs hb
  refine (callsIn_wide (n := 7)).1 (callsIn_of_wp_marks Try.func12 rfl trivial (wpIn_wide.2 ?_) rfl)
  simp only [Try.ntmps12, List.size_toArray, List.length_cons, List.length_nil, Nat.reduceAdd, Nat.reduceSub, Array.replicate_succ, Array.replicate_zero, List.push_toArray, List.append_toArray, List.nil_append, List.cons_append]
  go_upto_region 3 with (first | ((with_reducible refine gate_dst (N := 6) rfl ?_); refine ev_alloc rfl rfl ?_; intro gr w1 hg_ h1_ h2_; have HG := Aside0.mk hg_; have H1 := Aside0.mk h1_; have H2 := Aside0.mk h2_; clear hg_ h1_ h2_))
  go_upto_region 4 with (first | (go_at_call 19; (with_reducible refine (rules_20 _).mono ?_); rintro en x1 ⟨sb, rfl, a1_, a2_, a3_⟩; have S1 := Aside0.mk a1_; have S2 := Aside0.mk a2_; have S3 := Aside0.mk a3_; clear a1_ a2_ a3_) | ((with_reducible refine gate_dst (N := 8) rfl ?_); refine ev_rule rfl rfl ?_; intro br w2 hg_ h1_ h2_; have R1 := Aside0.mk hg_; have R2 := Aside0.mk h1_; have R3 := Aside0.mk h2_; clear hg_ h1_ h2_) | ((with_reducible refine gate_op (u := .store 51 (.tmp 8) (.tmp 27)) rfl ?_); refine Same.wpList_store_row 51 (.tmp 8) (.tmp 27) rfl rfl rfl rfl R2.out rfl (by kernel_rfl) funcs_one ?_; intro W1 h3_ h4_; have HPR := Aside0.mk (Pr.mk' HG.out H1.out H2.out S1.out S2.out S3.out R1.out R3.out h3_ h4_); clear h3_ h4_ HG H1 H2 S1 S2 S3 R1 R2 R3))
  go_upto_region 6 with (fail)
  go_upto_region 7 with (first | (go_at_call 20; (with_reducible refine (p_new A c l _ (Kd.C_below HR.out HPR.out.b) HC.out HS.out HBB.out).mono ?_); rintro en x2 ⟨g, rfl, q1_, q2_, q3_, q4_⟩; have HN := Aside0.mk (show Nw2 W1 g x2 (cu l) from ⟨q3_, ⟨_, q2_, Nat.le_refl _⟩, q1_⟩); clear q1_ q2_ q3_ q4_))
  obtain ⟨n, en_⟩ : ∃ z, z = (cu l).byteV := ⟨_, rfl⟩
  have EN := Aside0.mk en_
  obtain ⟨l0, h0⟩ := Cu.byteV_bd (Nw2.good HN.out)
  rw [← en_] at l0 h0
  clear en_
  go_upto_region 8 with (first | (go_at_call 21; (with_reducible refine (Nw2.byte HN.out).mono ?_); rintro en x3 ⟨rfl, hp_⟩; rw [← EN.out]; obtain ⟨c1, ec_⟩ : ∃ z, z = (cu l).byteS := ⟨_, rfl⟩; rw [← ec_] at hp_; have Ec1 := Aside0.mk ec_; clear ec_; have n0_ := Aside0.mk hp_; clear HN hp_; have HN := n0_; clear n0_))
  have kf : World.cell? _ ⟨br, 0, none⟩ = some (Value.func (.func 39) #[] #[]) := blk_cell (blk_below HPR.out.rl HN.out.b) 0
  go_upto_region 9 with (first | (go_at_call 39; (with_reducible refine (may2_any l0 h0 _).mono ?_); rintro en x4 ⟨rfl, hb_⟩; have n0_ := Aside0.mk (HN.out.below hb_); clear HN hb_ kf; have HN := n0_; clear n0_) | (go_at_call 22; (with_reducible refine (Nw2.need HN.out (may2 n) 5).mono ?_); rintro en x5 ⟨rfl, hp_⟩; obtain ⟨c2, ec_⟩ : ∃ z, z = c1.need (may2 n) 5 := ⟨_, rfl⟩; rw [← ec_] at hp_; have Ec2 := Aside0.mk ec_; clear ec_; have n0_ := Aside0.mk hp_; clear HN hp_; have HN := n0_; clear n0_))
  have HG2 := Aside0.mk (Nw2.good HN.out)
  go_upto_region 10 with (first | (go_at_call 23; (with_reducible refine (Nw2.bytes HN.out n).mono ?_); rintro en x6 ⟨A5, n5, rfl, hz_, hr_, hp_⟩; obtain ⟨c3, ec_⟩ : ∃ z, z = c2.bytesS n := ⟨_, rfl⟩; rw [← ec_] at hp_; have Ec3 := Aside0.mk ec_; clear ec_; have RZ := Aside0.mk hz_; have RR := Aside0.mk hr_; have n0_ := Aside0.mk hp_; clear HN hp_ hz_ hr_; have HN := n0_; clear n0_) | (go_at_call 20; (with_reducible refine (p_new A5 n5 (c2.bytesV n) _ RR.out RZ.out (bytesV_len HG2.out n) (Cu.bytes_bytesV HG2.out n)).mono ?_); rintro en x7 ⟨gb, rfl, q1_, q2_, q3_, q4_⟩; have B1 := Aside0.mk q1_; have B2 := Aside0.mk q2_; have B3 := Aside0.mk q3_; have n0_ := Aside0.mk (HN.out.below q3_); have HN6 := HN; clear HN q1_ q2_ q3_ q4_; have HN := n0_; clear n0_))
  go_upto_region 11 with (first | ((with_reducible refine gate_dst (N := 48) rfl ?_); refine ev_build (codeC 21) rfl (by go_simp; first | rfl | done) ?_; intro cx hcx_; subst hcx_) | ((with_reducible refine gate_dst (N := 13) rfl ?_); refine ev_var (y := .tmp 48) rfl rfl rfl rfl rfl (codeC_is (code := 21) (by decide) w0) rfl rfl ?_; intro gm x8 hg_ h1_ hb_; have M1 := Aside0.mk hg_; have M2 := Aside0.mk h1_; have M3 := Aside0.mk hb_; have n0_ := Aside0.mk (HN.out.below hb_); clear HN hg_ h1_ hb_; have HN := n0_; clear n0_))
  have kf : World.cell? _ ⟨br, 1, none⟩ = some (Value.func (.func 40) #[] #[]) := blk_cell (blk_below HPR.out.rl HN.out.b) 1
  go_wp2_with (first | (go_at_call 24; (with_reducible refine (full_mk gb 40 #[] _).mono ?_); rintro en x9 ⟨b2, b3, rfl, a1_, a2_, a3_, a4_, a5_, a6_, a7_, a8_⟩; have F1 := Aside0.mk a1_; have F2 := Aside0.mk a2_; have F3 := Aside0.mk a3_; have F4 := Aside0.mk a4_; have F5 := Aside0.mk a5_; have F6 := Aside0.mk a6_; have F7 := Aside0.mk a7_; have F8 := Aside0.mk a8_; clear a1_ a2_ a3_ a4_ a5_ a6_ a7_ a8_ kf))
  have LT := Aside0.mk (lts_of HPR.out HN6.out B1.out B2.out B3.out M1.out M3.out M2.out F8.out)
  refine range_law (rd := rd2) (q := 14) (gb := gb) (gm := gm) (sb := sb) (lo := _) (hi := gb) (N := (c2.bytesV n).length) (code := 21) (c0 := cu (c2.bytesV n)) (lb := #[.pointer (some ⟨b2, 0, none⟩), .pointer (some ⟨b3, 0, none⟩)]) rfl LT.out.lay LT.out.lt ((B2.out.below M3.out).below F8.out) (blk_below HPR.out.sm (LT.out.b1)) (blk_below M2.out F8.out) (Nat.le_refl _) ?hit ?assign ?body ?done
  case hit =>
    intro W0 rec hb_ hz_
    have o_ := LT.out.od
    have m_ := blk_lt M2.out
    have f_ := F1.out
    have g_ := F2.out
    have j_ := F3.out
    have k_ := F4.out
    exact iter2 (by rw [hz_]; exact LT.out.lay) ⟨(hb_.cell (p := ⟨b2, 0, none⟩) F3.out).trans F5.out, (hb_.cell (p := ⟨b3, 0, none⟩) F4.out).trans F6.out, by omega, by omega⟩
  case assign =>
    intro l_ r_ W_ K_ hK_
    simp only [List.setIfInBounds_toArray, List.set_cons_zero, List.set_cons_succ] at hK_ ⊢
    gi_wp2
    exact hK_ _ _ rfl (blk_new _ _) (below_alloc (Below.refl _ _) _)
  case body =>
    intro l_ bx_ W0 rec_ W_ c_ s_ os_ raws_ v_ r_ x_ L_ hLS_ hg_ hx_ hb_ hk_
    simp only [List.setIfInBounds_toArray, List.set_cons_zero, List.set_cons_succ]
    obtain ⟨A9, n9, rfl, _, _⟩ := Kd.R_reads hLS_.row
    have k15 := hLS_.at_list.1
    have f15 := hLS_.at_list.2
    have HL_ := Aside0.mk hLS_
    have LL_ := Aside0.mk L_
    have HG_ := Aside0.mk hg_
    have HX_ := Aside0.mk hx_
    have HB_ := Aside0.mk hb_
    have HK_ := Aside0.mk (show W_.heap[bx_]? = some (.cells #[.int .u16 r_.f0, .int .u16 r_.f1, .int .u16 r_.f2, .slice r_.A r_.n r_.c] 43 (0, 0)) from hk_)
    clear hLS_ L_ hg_ hx_ hb_ hk_
    gi_wp2_with (first | ((with_reducible refine gateIn_dst (N := 56) rfl ?_); refine loadIn_row rfl 43 (.tmp 14) rfl bx_ rfl 43 _ (0, 0) _ HK_.out Try.underlying43 rfl (rec_info rfl) ?_) | ((with_reducible refine gateIn_dst (N := 58) rfl ?_); gi_at_builtin; refine R_append_in kRawR (w0 := W_) (W := W_) W0.heap.size rfl (.tmp 55) (.tmp 57) 27 43 (.agg recZ) 32 rfl Try.underlying27 (by kernel_rfl) rfl (by decide) (by decide) (.slice A9 raws_.length n9) raws_ r_ [Value.int .u16 r_.f0, .int .u16 r_.f1, .int .u16 r_.f2, .slice r_.A r_.n r_.c] (fun k => W0.heap.size ≤ k) (fun _ => False) rfl rfl rfl (fun _ h => h.elim) (fun k hk => Nat.le_trans HL_.out.up.kept.1 hk) HL_.out.row ⟨rfl, rfl, rfl, Nat.le_refl _, fun _ _ => rfl⟩ HL_.out.up.kept.1 (by have := HL_.out.few; omega) ?_; intro v1 y3 r1_ hb1 g1_ hv1_; obtain ⟨A8, n8, e8, _, _⟩ := Kd.R_reads r1_; obtain ⟨N8, hN8⟩ : ∃ z, z = (raws_ ++ [r_]).length := ⟨_, rfl⟩; rw [← hN8] at e8; subst e8; clear hN8; have R1 := Aside0.mk r1_; have G1 := Aside0.mk g1_; have V1 := Aside0.mk hv1_; have kl := (HL_.out.at_list' LL_.out g1_).1; have fl := (HL_.out.at_list' LL_.out g1_).2; clear r1_ g1_ hv1_ hb1 k15 f15))
    exact ⟨_, HL_.out.push LL_.out HG_.out HX_.out HB_.out R1.out G1.out V1.out⟩
  case done =>
    intro W0 W3 l_ rec_ cb s_ os raws v hb_ hz_ hl_ hLS_ hD_ hcb_ hos_
    obtain ⟨lo, cx, ha_⟩ := aft_of HPR.out HN.out F8.out LT.out hb_ hz_ hl_ hLS_ hD_ (by decide)
    have HA := Aside0.mk ha_
    have HF := Aside0.mk ha_.af
    have HCB := Aside0.mk hLS_.cur
    have HE1 := Aside0.mk hcb_
    have HE2 := Aside0.mk hos_
    clear hb_ hz_ hl_ hLS_ hD_ ha_ hcb_ hos_ LT HPR HN HN6 F1 F2 F3 F4 F5 F6 F7 F8 M1 M2 M3 B1 B2 B3 RZ RR
    obtain ⟨D, hd_⟩ : ∃ z, z = x9.heap.size := ⟨_, rfl⟩
    rw [← hd_] at HA ⊢
    clear hd_
    go_upto_region 15 with (first | (go_at_call 25; (with_reducible refine (p_err HCB.out).mono ?_); rintro en y1 ⟨rfl, rfl⟩) | (go_at_call 26; (with_reducible refine (within_any cb.e _).mono ?_); rintro en y2 ⟨rfl, hb_⟩; have n0_ := Aside0.mk (HF.out.below hb_); clear HF hb_; have HF := n0_; clear n0_) | (go_at_call 22; (with_reducible refine (Af.need HF.out (cb.e == 0) (within cb.e)).mono ?_); rintro en y3 ⟨rfl, hp_⟩; obtain ⟨c4, ec_⟩ : ∃ z, z = c3.need (cb.e == 0) (within cb.e) := ⟨_, rfl⟩; rw [← ec_] at hp_; have Ec4 := Aside0.mk ec_; clear ec_; have n0_ := Aside0.mk hp_; clear HF hp_; have HF := n0_; clear n0_))
    go_upto_region 16 with (first | (go_at_call 27; (with_reducible refine (Af.fin HF.out).mono ?_); rintro en y4 ⟨rfl, hp_⟩; obtain ⟨c5, ec_⟩ : ∃ z, z = c4.fin := ⟨_, rfl⟩; rw [← ec_] at hp_; have Ec5 := Aside0.mk ec_; clear ec_; have n0_ := Aside0.mk hp_; clear HF hp_; have HF := n0_; clear n0_))
    go_upto_region 17 with (first | (go_at_call 25; (with_reducible refine (p_err HF.out.cur).mono ?_); rintro en y5 ⟨rfl, rfl⟩))
    have EB : Aside0 (body rd2 may2 l = (c4, (partsG rd2 (c2.bytesV n).length 0 (cu (c2.bytesV n))).2)) := ⟨by simp only [body]; rw [← EN.out, ← Ec1.out, ← Ec2.out, ← Ec3.out, ← HE1.out, ← Ec4.out]⟩
    by_cases h9 : c5.e = 0
    · have g1 : (c5.e != 0) = false := by rw [h9]; rfl
      have h4_ : c4.e = 0 := (fin_ok (by rw [← Ec5.out]; exact h9)).1
      have h5_ : cb.e = 0 := by
        obtain ⟨_, e_, _⟩ := need_ok' (c := c3) (ok := (cb.e == 0)) (f := within cb.e) (fun e_ => by rw [within_ne e_]; rfl) (by rw [← Ec4.out]; exact h4_)
        simpa using e_
      have EX : Aside0 (outc 21 (body rd2 may2 l) = ({ zeroM with code := 21, recs := os }, 0)) := ⟨by simp only [outc]; rw [EB.out]; simp only []; rw [← Ec5.out, if_neg (fun h => h h9), HE2.out h5_]⟩
      clear h4_ h5_ h9
      have SZ := Aside0.mk (IsMsg.size (HA.out.is _ (Kept.refl _ _)))
      have ON := Aside0.mk (IsMsg.one (HA.out.is _ (Kept.refl _ _)))
      go_wp2_with (first | ((with_reducible refine gate_dst (N := 76) rfl ?_); refine wpList_load_row rfl 30 (.tmp 13) rfl gm rfl 30 cx (0, 0) _ (blk_kept HA.out.mg HF.out.k.kept HA.out.ne.2.1) Try.underlying30 rfl (msg_info SZ.out) ?_) | ((with_reducible refine gate_op (u := .store 30 (.tmp 6) (.tmp 76)) rfl ?_); refine Same.wpList_store_row 30 (.tmp 6) (.tmp 76) rfl rfl rfl rfl (blk_kept HA.out.res HF.out.k.kept HA.out.ne.1) SZ.out.symm (msg_info SZ.out) ON.out ?_; intro y9 h3_ h4_; have HZ := Aside0.mk (Aft.fin HA.out HF.out h4_ h3_); clear h3_ h4_))
      refine ⟨by simp, .inl ⟨_, _, rfl, run_takeDeferred HZ.out.1, ?_⟩⟩
      refine ⟨_, results_ct rfl _ _ gr 30 cx (0, 0) _ rfl HZ.out.2.1 Try.underlying30 rfl (msg_info SZ.out), ?_⟩
      rw [EX.out]
      exact ⟨cx, rfl, HA.out.is _ HZ.out.2.2.2, HZ.out.2.2.1⟩
    · have g1 : (c5.e != 0) = true := by simpa using h9
      have EX : Aside0 (outc 21 (body rd2 may2 l) = (zeroM, c5.e)) := ⟨by simp only [outc]; rw [EB.out]; simp only []; rw [← Ec5.out, if_pos h9]⟩
      clear h9
      go_wp2_with (first | ((with_reducible refine gate_dst (N := 74) rfl ?_); refine ev_build (zeroC) rfl (by go_simp; first | rfl | done) ?_; intro cz hcz_; have CZ := Aside0.mk hcz_; clear hcz_) | ((with_reducible refine gate_op (u := .store 30 (.tmp 6) (.tmp 74)) rfl ?_); refine Same.wpList_store_row 30 (.tmp 6) (.tmp 74) rfl rfl rfl rfl (blk_kept HA.out.res HF.out.k.kept HA.out.ne.1) (by rw [CZ.out]) (msg_info (by rw [CZ.out]; rfl)) (by rw [CZ.out]; exact (zero_is w0).one) ?_; intro y9 h3_ h4_; have HZ := Aside0.mk (Aft.fin HA.out HF.out h4_ h3_); clear h3_ h4_))
      refine ⟨by simp, .inl ⟨_, _, rfl, run_takeDeferred HZ.out.1, ?_⟩⟩
      refine ⟨_, results_ct rfl _ _ gr 30 cz (0, 0) _ rfl HZ.out.2.1 Try.underlying30 rfl (msg_info (by rw [CZ.out]; rfl)), ?_⟩
      rw [EX.out]
      exact ⟨cz, rfl, by rw [CZ.out]; exact zero_is _, HZ.out.2.2.1⟩
theorem parse_t3 {A : Option Addr} {c : Nat} {l : List Int} {w0 : World} (hr : Kd.C (Kd.int .u8) w0 A l.length l) (hc : l.length ≤ c) (hs : l.length ≤ 1000000) (hb : isBytes l) :
    Calls Try.prog 12 #[.int .i64 1, .int .u8 21, .slice A l.length c] w0 fun en w' => ∃ cx, en = .returned (.tuple #[.agg cx, .int .i64 (outc 21 (body rd2 may2 l)).2]) ∧ IsMsg w' cx (outc 21 (body rd2 may2 l)).1 ∧ Below w0.heap.size w0 w' := by
  have HR := Aside0.mk hr
  have HC := Aside0.mk hc
  have HS := Aside0.mk hs
  have HBB := Aside0.mk hb
  clear hr hc hs hb
  refine (callsIn_wide (n := 7)).1 (callsIn_of_wp_marks Try.func12 rfl trivial (wpIn_wide.2 ?_) rfl)
  simp only [Try.ntmps12, List.size_toArray, List.length_cons, List.length_nil, Nat.reduceAdd, Nat.reduceSub, Array.replicate_succ, Array.replicate_zero, List.push_toArray, List.append_toArray, List.nil_append, List.cons_append]
  go_upto_region 3 with (first | ((with_reducible refine gate_dst (N := 6) rfl ?_); refine ev_alloc rfl rfl ?_; intro gr w1 hg_ h1_ h2_; have HG := Aside0.mk hg_; have H1 := Aside0.mk h1_; have H2 := Aside0.mk h2_; clear hg_ h1_ h2_))
  go_upto_region 4 with (first | (go_at_call 19; (with_reducible refine (rules_21 _).mono ?_); rintro en x1 ⟨sb, rfl, a1_, a2_, a3_⟩; have S1 := Aside0.mk a1_; have S2 := Aside0.mk a2_; have S3 := Aside0.mk a3_; clear a1_ a2_ a3_) | ((with_reducible refine gate_dst (N := 8) rfl ?_); refine ev_rule rfl rfl ?_; intro br w2 hg_ h1_ h2_; have R1 := Aside0.mk hg_; have R2 := Aside0.mk h1_; have R3 := Aside0.mk h2_; clear hg_ h1_ h2_) | ((with_reducible refine gate_op (u := .store 51 (.tmp 8) (.tmp 27)) rfl ?_); refine Same.wpList_store_row 51 (.tmp 8) (.tmp 27) rfl rfl rfl rfl R2.out rfl (by kernel_rfl) funcs_one ?_; intro W1 h3_ h4_; have HPR := Aside0.mk (Pr.mk' HG.out H1.out H2.out S1.out S2.out S3.out R1.out R3.out h3_ h4_); clear h3_ h4_ HG H1 H2 S1 S2 S3 R1 R2 R3))
  go_upto_region 6 with (fail)
  go_upto_region 7 with (first | (go_at_call 20; (with_reducible refine (p_new A c l _ (Kd.C_below HR.out HPR.out.b) HC.out HS.out HBB.out).mono ?_); rintro en x2 ⟨g, rfl, q1_, q2_, q3_, q4_⟩; have HN := Aside0.mk (show Nw2 W1 g x2 (cu l) from ⟨q3_, ⟨_, q2_, Nat.le_refl _⟩, q1_⟩); clear q1_ q2_ q3_ q4_))
  obtain ⟨n, en_⟩ : ∃ z, z = (cu l).byteV := ⟨_, rfl⟩
  have EN := Aside0.mk en_
  obtain ⟨l0, h0⟩ := Cu.byteV_bd (Nw2.good HN.out)
  rw [← en_] at l0 h0
  clear en_
  go_upto_region 8 with (first | (go_at_call 21; (with_reducible refine (Nw2.byte HN.out).mono ?_); rintro en x3 ⟨rfl, hp_⟩; rw [← EN.out]; obtain ⟨c1, ec_⟩ : ∃ z, z = (cu l).byteS := ⟨_, rfl⟩; rw [← ec_] at hp_; have Ec1 := Aside0.mk ec_; clear ec_; have n0_ := Aside0.mk hp_; clear HN hp_; have HN := n0_; clear n0_))
  have kf : World.cell? _ ⟨br, 0, none⟩ = some (Value.func (.func 39) #[] #[]) := blk_cell (blk_below HPR.out.rl HN.out.b) 0
  go_upto_region 9 with (first | (go_at_call 39; (with_reducible refine (may2_any l0 h0 _).mono ?_); rintro en x4 ⟨rfl, hb_⟩; have n0_ := Aside0.mk (HN.out.below hb_); clear HN hb_ kf; have HN := n0_; clear n0_) | (go_at_call 22; (with_reducible refine (Nw2.need HN.out (may2 n) 5).mono ?_); rintro en x5 ⟨rfl, hp_⟩; obtain ⟨c2, ec_⟩ : ∃ z, z = c1.need (may2 n) 5 := ⟨_, rfl⟩; rw [← ec_] at hp_; have Ec2 := Aside0.mk ec_; clear ec_; have n0_ := Aside0.mk hp_; clear HN hp_; have HN := n0_; clear n0_))
  have HG2 := Aside0.mk (Nw2.good HN.out)
  go_upto_region 10 with (first | (go_at_call 23; (with_reducible refine (Nw2.bytes HN.out n).mono ?_); rintro en x6 ⟨A5, n5, rfl, hz_, hr_, hp_⟩; obtain ⟨c3, ec_⟩ : ∃ z, z = c2.bytesS n := ⟨_, rfl⟩; rw [← ec_] at hp_; have Ec3 := Aside0.mk ec_; clear ec_; have RZ := Aside0.mk hz_; have RR := Aside0.mk hr_; have n0_ := Aside0.mk hp_; clear HN hp_ hz_ hr_; have HN := n0_; clear n0_) | (go_at_call 20; (with_reducible refine (p_new A5 n5 (c2.bytesV n) _ RR.out RZ.out (bytesV_len HG2.out n) (Cu.bytes_bytesV HG2.out n)).mono ?_); rintro en x7 ⟨gb, rfl, q1_, q2_, q3_, q4_⟩; have B1 := Aside0.mk q1_; have B2 := Aside0.mk q2_; have B3 := Aside0.mk q3_; have n0_ := Aside0.mk (HN.out.below q3_); have HN6 := HN; clear HN q1_ q2_ q3_ q4_; have HN := n0_; clear n0_))
  go_upto_region 11 with (first | ((with_reducible refine gate_dst (N := 48) rfl ?_); refine ev_build (codeC 21) rfl (by go_simp; first | rfl | done) ?_; intro cx hcx_; subst hcx_) | ((with_reducible refine gate_dst (N := 13) rfl ?_); refine ev_var (y := .tmp 48) rfl rfl rfl rfl rfl (codeC_is (code := 21) (by decide) w0) rfl rfl ?_; intro gm x8 hg_ h1_ hb_; have M1 := Aside0.mk hg_; have M2 := Aside0.mk h1_; have M3 := Aside0.mk hb_; have n0_ := Aside0.mk (HN.out.below hb_); clear HN hg_ h1_ hb_; have HN := n0_; clear n0_))
  have kf : World.cell? _ ⟨br, 1, none⟩ = some (Value.func (.func 40) #[] #[]) := blk_cell (blk_below HPR.out.rl HN.out.b) 1
  go_wp2_with (first | (go_at_call 24; (with_reducible refine (full_mk gb 40 #[] _).mono ?_); rintro en x9 ⟨b2, b3, rfl, a1_, a2_, a3_, a4_, a5_, a6_, a7_, a8_⟩; have F1 := Aside0.mk a1_; have F2 := Aside0.mk a2_; have F3 := Aside0.mk a3_; have F4 := Aside0.mk a4_; have F5 := Aside0.mk a5_; have F6 := Aside0.mk a6_; have F7 := Aside0.mk a7_; have F8 := Aside0.mk a8_; clear a1_ a2_ a3_ a4_ a5_ a6_ a7_ a8_ kf))
  have LT := Aside0.mk (lts_of HPR.out HN6.out B1.out B2.out B3.out M1.out M3.out M2.out F8.out)
  refine range_law (rd := rd2) (q := 14) (gb := gb) (gm := gm) (sb := sb) (lo := _) (hi := gb) (N := (c2.bytesV n).length) (code := 21) (c0 := cu (c2.bytesV n)) (lb := #[.pointer (some ⟨b2, 0, none⟩), .pointer (some ⟨b3, 0, none⟩)]) rfl LT.out.lay LT.out.lt ((B2.out.below M3.out).below F8.out) (blk_below HPR.out.sm (LT.out.b1)) (blk_below M2.out F8.out) (Nat.le_refl _) ?hit ?assign ?body ?done
  case hit =>
    intro W0 rec hb_ hz_
    have o_ := LT.out.od
    have m_ := blk_lt M2.out
    have f_ := F1.out
    have g_ := F2.out
    have j_ := F3.out
    have k_ := F4.out
    exact iter2 (by rw [hz_]; exact LT.out.lay) ⟨(hb_.cell (p := ⟨b2, 0, none⟩) F3.out).trans F5.out, (hb_.cell (p := ⟨b3, 0, none⟩) F4.out).trans F6.out, by omega, by omega⟩
  case assign =>
    intro l_ r_ W_ K_ hK_
    simp only [List.setIfInBounds_toArray, List.set_cons_zero, List.set_cons_succ] at hK_ ⊢
    gi_wp2
    exact hK_ _ _ rfl (blk_new _ _) (below_alloc (Below.refl _ _) _)
  case body =>
    intro l_ bx_ W0 rec_ W_ c_ s_ os_ raws_ v_ r_ x_ L_ hLS_ hg_ hx_ hb_ hk_
    simp only [List.setIfInBounds_toArray, List.set_cons_zero, List.set_cons_succ]
    obtain ⟨A9, n9, rfl, _, _⟩ := Kd.R_reads hLS_.row
    have k15 := hLS_.at_list.1
    have f15 := hLS_.at_list.2
    have HL_ := Aside0.mk hLS_
    have LL_ := Aside0.mk L_
    have HG_ := Aside0.mk hg_
    have HX_ := Aside0.mk hx_
    have HB_ := Aside0.mk hb_
    have HK_ := Aside0.mk (show W_.heap[bx_]? = some (.cells #[.int .u16 r_.f0, .int .u16 r_.f1, .int .u16 r_.f2, .slice r_.A r_.n r_.c] 43 (0, 0)) from hk_)
    clear hLS_ L_ hg_ hx_ hb_ hk_
    gi_wp2_with (first | ((with_reducible refine gateIn_dst (N := 56) rfl ?_); refine loadIn_row rfl 43 (.tmp 14) rfl bx_ rfl 43 _ (0, 0) _ HK_.out Try.underlying43 rfl (rec_info rfl) ?_) | ((with_reducible refine gateIn_dst (N := 58) rfl ?_); gi_at_builtin; refine R_append_in kRawR (w0 := W_) (W := W_) W0.heap.size rfl (.tmp 55) (.tmp 57) 27 43 (.agg recZ) 32 rfl Try.underlying27 (by kernel_rfl) rfl (by decide) (by decide) (.slice A9 raws_.length n9) raws_ r_ [Value.int .u16 r_.f0, .int .u16 r_.f1, .int .u16 r_.f2, .slice r_.A r_.n r_.c] (fun k => W0.heap.size ≤ k) (fun _ => False) rfl rfl rfl (fun _ h => h.elim) (fun k hk => Nat.le_trans HL_.out.up.kept.1 hk) HL_.out.row ⟨rfl, rfl, rfl, Nat.le_refl _, fun _ _ => rfl⟩ HL_.out.up.kept.1 (by have := HL_.out.few; omega) ?_; intro v1 y3 r1_ hb1 g1_ hv1_; obtain ⟨A8, n8, e8, _, _⟩ := Kd.R_reads r1_; obtain ⟨N8, hN8⟩ : ∃ z, z = (raws_ ++ [r_]).length := ⟨_, rfl⟩; rw [← hN8] at e8; subst e8; clear hN8; have R1 := Aside0.mk r1_; have G1 := Aside0.mk g1_; have V1 := Aside0.mk hv1_; have kl := (HL_.out.at_list' LL_.out g1_).1; have fl := (HL_.out.at_list' LL_.out g1_).2; clear r1_ g1_ hv1_ hb1 k15 f15))
    exact ⟨_, HL_.out.push LL_.out HG_.out HX_.out HB_.out R1.out G1.out V1.out⟩
  case done =>
    intro W0 W3 l_ rec_ cb s_ os raws v hb_ hz_ hl_ hLS_ hD_ hcb_ hos_
    obtain ⟨lo, cx, ha_⟩ := aft_of HPR.out HN.out F8.out LT.out hb_ hz_ hl_ hLS_ hD_ (by decide)
    have HA := Aside0.mk ha_
    have HF := Aside0.mk ha_.af
    have HCB := Aside0.mk hLS_.cur
    have HE1 := Aside0.mk hcb_
    have HE2 := Aside0.mk hos_
    clear hb_ hz_ hl_ hLS_ hD_ ha_ hcb_ hos_ LT HPR HN HN6 F1 F2 F3 F4 F5 F6 F7 F8 M1 M2 M3 B1 B2 B3 RZ RR
    obtain ⟨D, hd_⟩ : ∃ z, z = x9.heap.size := ⟨_, rfl⟩
    rw [← hd_] at HA ⊢
    clear hd_
    go_upto_region 15 with (first | (go_at_call 25; (with_reducible refine (p_err HCB.out).mono ?_); rintro en y1 ⟨rfl, rfl⟩) | (go_at_call 26; (with_reducible refine (within_any cb.e _).mono ?_); rintro en y2 ⟨rfl, hb_⟩; have n0_ := Aside0.mk (HF.out.below hb_); clear HF hb_; have HF := n0_; clear n0_) | (go_at_call 22; (with_reducible refine (Af.need HF.out (cb.e == 0) (within cb.e)).mono ?_); rintro en y3 ⟨rfl, hp_⟩; obtain ⟨c4, ec_⟩ : ∃ z, z = c3.need (cb.e == 0) (within cb.e) := ⟨_, rfl⟩; rw [← ec_] at hp_; have Ec4 := Aside0.mk ec_; clear ec_; have n0_ := Aside0.mk hp_; clear HF hp_; have HF := n0_; clear n0_))
    go_upto_region 16 with (first | (go_at_call 27; (with_reducible refine (Af.fin HF.out).mono ?_); rintro en y4 ⟨rfl, hp_⟩; obtain ⟨c5, ec_⟩ : ∃ z, z = c4.fin := ⟨_, rfl⟩; rw [← ec_] at hp_; have Ec5 := Aside0.mk ec_; clear ec_; have n0_ := Aside0.mk hp_; clear HF hp_; have HF := n0_; clear n0_))
    go_upto_region 17 with (first | (go_at_call 25; (with_reducible refine (p_err HF.out.cur).mono ?_); rintro en y5 ⟨rfl, rfl⟩))
    have EB : Aside0 (body rd2 may2 l = (c4, (partsG rd2 (c2.bytesV n).length 0 (cu (c2.bytesV n))).2)) := ⟨by simp only [body]; rw [← EN.out, ← Ec1.out, ← Ec2.out, ← Ec3.out, ← HE1.out, ← Ec4.out]⟩
    by_cases h9 : c5.e = 0
    · have g1 : (c5.e != 0) = false := by rw [h9]; rfl
      have h4_ : c4.e = 0 := (fin_ok (by rw [← Ec5.out]; exact h9)).1
      have h5_ : cb.e = 0 := by
        obtain ⟨_, e_, _⟩ := need_ok' (c := c3) (ok := (cb.e == 0)) (f := within cb.e) (fun e_ => by rw [within_ne e_]; rfl) (by rw [← Ec4.out]; exact h4_)
        simpa using e_
      have EX : Aside0 (outc 21 (body rd2 may2 l) = ({ zeroM with code := 21, recs := os }, 0)) := ⟨by simp only [outc]; rw [EB.out]; simp only []; rw [← Ec5.out, if_neg (fun h => h h9), HE2.out h5_]⟩
      clear h4_ h5_ h9
      have SZ := Aside0.mk (IsMsg.size (HA.out.is _ (Kept.refl _ _)))
      have ON := Aside0.mk (IsMsg.one (HA.out.is _ (Kept.refl _ _)))
      go_wp2_with (first | ((with_reducible refine gate_dst (N := 76) rfl ?_); refine wpList_load_row rfl 30 (.tmp 13) rfl gm rfl 30 cx (0, 0) _ (blk_kept HA.out.mg HF.out.k.kept HA.out.ne.2.1) Try.underlying30 rfl (msg_info SZ.out) ?_) | ((with_reducible refine gate_op (u := .store 30 (.tmp 6) (.tmp 76)) rfl ?_); refine Same.wpList_store_row 30 (.tmp 6) (.tmp 76) rfl rfl rfl rfl (blk_kept HA.out.res HF.out.k.kept HA.out.ne.1) SZ.out.symm (msg_info SZ.out) ON.out ?_; intro y9 h3_ h4_; have HZ := Aside0.mk (Aft.fin HA.out HF.out h4_ h3_); clear h3_ h4_))
      refine ⟨by simp, .inl ⟨_, _, rfl, run_takeDeferred HZ.out.1, ?_⟩⟩
      refine ⟨_, results_ct rfl _ _ gr 30 cx (0, 0) _ rfl HZ.out.2.1 Try.underlying30 rfl (msg_info SZ.out), ?_⟩
      rw [EX.out]
      exact ⟨cx, rfl, HA.out.is _ HZ.out.2.2.2, HZ.out.2.2.1⟩
    · have g1 : (c5.e != 0) = true := by simpa using h9
      have EX : Aside0 (outc 21 (body rd2 may2 l) = (zeroM, c5.e)) := ⟨by simp only [outc]; rw [EB.out]; simp only []; rw [← Ec5.out, if_pos h9]⟩
      clear h9
      go_wp2_with (first | ((with_reducible refine gate_dst (N := 74) rfl ?_); refine ev_build (zeroC) rfl (by go_simp; first | rfl | done) ?_; intro cz hcz_; have CZ := Aside0.mk hcz_; clear hcz_) | ((with_reducible refine gate_op (u := .store 30 (.tmp 6) (.tmp 74)) rfl ?_); refine Same.wpList_store_row 30 (.tmp 6) (.tmp 74) rfl rfl rfl rfl (blk_kept HA.out.res HF.out.k.kept HA.out.ne.1) (by rw [CZ.out]) (msg_info (by rw [CZ.out]; rfl)) (by rw [CZ.out]; exact (zero_is w0).one) ?_; intro y9 h3_ h4_; have HZ := Aside0.mk (Aft.fin HA.out HF.out h4_ h3_); clear h3_ h4_))
      refine ⟨by simp, .inl ⟨_, _, rfl, run_takeDeferred HZ.out.1, ?_⟩⟩
      refine ⟨_, results_ct rfl _ _ gr 30 cz (0, 0) _ rfl HZ.out.2.1 Try.underlying30 rfl (msg_info (by rw [CZ.out]; rfl)), ?_⟩
      rw [EX.out]
      exact ⟨cz, rfl, by rw [CZ.out]; exact zero_is _, HZ.out.2.2.1⟩
theorem parse_dir {A : Option Addr} {c : Nat} {l : List Int} {w0 : World} (hr : Kd.C (Kd.int .u8) w0 A l.length l) (hc : l.length ≤ c) (hs : l.length ≤ 1000000) (hb : isBytes l) {dir code : Int} (h0 : dir ≠ 0) (h1 : dir ≠ 1) :
    Calls Try.prog 12 #[.int .i64 dir, .int .u8 code, .slice A l.length c] w0 fun en w' => ∃ cx, en = .returned (.tuple #[.agg cx, .int .i64 1]) ∧ IsMsg w' cx zeroM ∧ Below w0.heap.size w0 w' := by
  have e0 : (dir != 0) = true := by simpa using h0
  have e1 : (dir != 1) = true := by simpa using h1
  have e0' : (dir == 0) = false := by simpa using h0
  have e1' : (dir == 1) = false := by simpa using h1
  clear h0 h1
  clear hr hc hs hb
  go_enter Try.func12, Try.ntmps12
  go_wp2_with (first | ((with_reducible refine gate_dst (N := 6) rfl ?_); refine ev_alloc rfl rfl ?_; intro gr w1 hg_ h1_ h2_; have HG := Aside0.mk hg_; have H1 := Aside0.mk h1_; have HB := Aside0.mk h2_; clear hg_ h1_ h2_) | ((with_reducible refine gate_dst (N := 22) rfl ?_); refine ev_build (zeroC) rfl (by go_simp; first | rfl | done) ?_; intro cz hcz_; have CZ := Aside0.mk hcz_; clear hcz_) | ((with_reducible refine gate_op (u := .store 30 (.tmp 6) (.tmp 22)) rfl ?_); refine Same.wpList_store_row 30 (.tmp 6) (.tmp 22) rfl rfl rfl rfl H1.out (by rw [CZ.out]) (msg_info (by rw [CZ.out]; rfl)) (by rw [CZ.out]; exact (zero_is w0).one) ?_; intro y9 h3_ h4_; have HZ := Aside0.mk h3_; have HW := Aside0.mk (HB.out.trans (h4_.below (by have := HG.out; omega) HB.out.size)); clear h3_ h4_))
  refine bodyPost_ret (results_ct rfl _ _ gr 30 cz (0, 0) _ rfl HZ.out Try.underlying30 rfl (msg_info (by rw [CZ.out]; rfl))) rfl ⟨cz, rfl, by rw [CZ.out]; exact zero_is _, HW.out⟩
theorem parse_no0 {A : Option Addr} {c : Nat} {l : List Int} {w0 : World} (hr : Kd.C (Kd.int .u8) w0 A l.length l) (hc : l.length ≤ c) (hs : l.length ≤ 1000000) (hb : isBytes l) {code : Int} (h0 : code ≠ 20) (h1 : code ≠ 21) :
    Calls Try.prog 12 #[.int .i64 0, .int .u8 code, .slice A l.length c] w0 fun en w' => ∃ cx, en = .returned (.tuple #[.agg cx, .int .i64 4]) ∧ IsMsg w' cx zeroM ∧ Below w0.heap.size w0 w' := by
  clear hr hc hs hb
  go_enter Try.func12, Try.ntmps12
  go_wp2_with (first | ((with_reducible refine gate_dst (N := 6) rfl ?_); refine ev_alloc rfl rfl ?_; intro gr w1 hg_ h1_ h2_; have HG := Aside0.mk hg_; have H1 := Aside0.mk h1_; have HB := Aside0.mk h2_; clear hg_ h1_ h2_) | (go_at_call 19; (with_reducible refine (rules_no0 h0 h1 _).mono ?_); rintro en x1 ⟨rfl, hb_⟩; have n0_ := Aside0.mk (blk_below H1.out hb_); have n1_ := Aside0.mk (HB.out.trans (hb_.mono HB.out.size)); clear H1 HB hb_; have H1 := n0_; have HB := n1_; clear n0_ n1_) | ((with_reducible refine gate_dst (N := 8) rfl ?_); refine ev_rule rfl rfl ?_; intro br w2 hg_ h1_ h2_; have R1 := Aside0.mk hg_; have R2 := Aside0.mk h1_; have R3 := Aside0.mk h2_; clear hg_ h1_ h2_) | ((with_reducible refine gate_op (u := .store 51 (.tmp 8) (.tmp 27)) rfl ?_); refine Same.wpList_store_row 51 (.tmp 8) (.tmp 27) rfl rfl rfl rfl R2.out rfl (by kernel_rfl) (by simp [Value.oneCell']) ?_; intro W1 h3_ h4_; have k_ := R3.out.trans (h4_.below (by have := R1.out; omega) R3.out.size); have n0_ := Aside0.mk (blk_below H1.out k_); have n1_ := Aside0.mk (HB.out.trans (k_.mono HB.out.size)); clear H1 HB h3_ h4_ k_; have H1 := n0_; have HB := n1_; clear n0_ n1_) | ((with_reducible refine gate_dst (N := 31) rfl ?_); refine ev_build (zeroC) rfl (by go_simp; first | rfl | done) ?_; intro cz hcz_; have CZ := Aside0.mk hcz_; clear hcz_) | ((with_reducible refine gate_op (u := .store 30 (.tmp 6) (.tmp 31)) rfl ?_); refine Same.wpList_store_row 30 (.tmp 6) (.tmp 31) rfl rfl rfl rfl H1.out (by rw [CZ.out]) (msg_info (by rw [CZ.out]; rfl)) (by rw [CZ.out]; exact (zero_is w0).one) ?_; intro y9 h3_ h4_; have HZ := Aside0.mk h3_; have HW := Aside0.mk (HB.out.trans (h4_.below (by have := HG.out; omega) HB.out.size)); clear h3_ h4_))
  refine bodyPost_ret (results_ct rfl _ _ gr 30 cz (0, 0) _ rfl HZ.out Try.underlying30 rfl (msg_info (by rw [CZ.out]; rfl))) rfl ⟨cz, rfl, by rw [CZ.out]; exact zero_is _, HW.out⟩
theorem parse_no1 {A : Option Addr} {c : Nat} {l : List Int} {w0 : World} (hr : Kd.C (Kd.int .u8) w0 A l.length l) (hc : l.length ≤ c) (hs : l.length ≤ 1000000) (hb : isBytes l) {code : Int} (h0 : code ≠ 20) (h1 : code ≠ 21) :
    Calls Try.prog 12 #[.int .i64 1, .int .u8 code, .slice A l.length c] w0 fun en w' => ∃ cx, en = .returned (.tuple #[.agg cx, .int .i64 4]) ∧ IsMsg w' cx zeroM ∧ Below w0.heap.size w0 w' := by
  clear hr hc hs hb
  go_enter Try.func12, Try.ntmps12
  go_wp2_with (first | ((with_reducible refine gate_dst (N := 6) rfl ?_); refine ev_alloc rfl rfl ?_; intro gr w1 hg_ h1_ h2_; have HG := Aside0.mk hg_; have H1 := Aside0.mk h1_; have HB := Aside0.mk h2_; clear hg_ h1_ h2_) | (go_at_call 19; (with_reducible refine (rules_no1 h0 h1 _).mono ?_); rintro en x1 ⟨rfl, hb_⟩; have n0_ := Aside0.mk (blk_below H1.out hb_); have n1_ := Aside0.mk (HB.out.trans (hb_.mono HB.out.size)); clear H1 HB hb_; have H1 := n0_; have HB := n1_; clear n0_ n1_) | ((with_reducible refine gate_dst (N := 8) rfl ?_); refine ev_rule rfl rfl ?_; intro br w2 hg_ h1_ h2_; have R1 := Aside0.mk hg_; have R2 := Aside0.mk h1_; have R3 := Aside0.mk h2_; clear hg_ h1_ h2_) | ((with_reducible refine gate_op (u := .store 51 (.tmp 8) (.tmp 27)) rfl ?_); refine Same.wpList_store_row 51 (.tmp 8) (.tmp 27) rfl rfl rfl rfl R2.out rfl (by kernel_rfl) (by simp [Value.oneCell']) ?_; intro W1 h3_ h4_; have k_ := R3.out.trans (h4_.below (by have := R1.out; omega) R3.out.size); have n0_ := Aside0.mk (blk_below H1.out k_); have n1_ := Aside0.mk (HB.out.trans (k_.mono HB.out.size)); clear H1 HB h3_ h4_ k_; have H1 := n0_; have HB := n1_; clear n0_ n1_) | ((with_reducible refine gate_dst (N := 31) rfl ?_); refine ev_build (zeroC) rfl (by go_simp; first | rfl | done) ?_; intro cz hcz_; have CZ := Aside0.mk hcz_; clear hcz_) | ((with_reducible refine gate_op (u := .store 30 (.tmp 6) (.tmp 31)) rfl ?_); refine Same.wpList_store_row 30 (.tmp 6) (.tmp 31) rfl rfl rfl rfl H1.out (by rw [CZ.out]) (msg_info (by rw [CZ.out]; rfl)) (by rw [CZ.out]; exact (zero_is w0).one) ?_; intro y9 h3_ h4_; have HZ := Aside0.mk h3_; have HW := Aside0.mk (HB.out.trans (h4_.below (by have := HG.out; omega) HB.out.size)); clear h3_ h4_))
  refine bodyPost_ret (results_ct rfl _ _ gr 30 cz (0, 0) _ rfl HZ.out Try.underlying30 rfl (msg_info (by rw [CZ.out]; rfl))) rfl ⟨cz, rfl, by rw [CZ.out]; exact zero_is _, HW.out⟩
theorem parse_any {dir code : Int} {A : Option Addr} {c : Nat} {l : List Int} {w0 : World} (hr : Kd.C (Kd.int .u8) w0 A l.length l) (hc : l.length ≤ c) (hs : l.length ≤ 1000000) (hb : isBytes l) :
    Calls Try.prog 12 #[.int .i64 dir, .int .u8 code, .slice A l.length c] w0 fun en w' => ∃ cx, en = .returned (.tuple #[.agg cx, .int .i64 (parse dir code l).2]) ∧ IsMsg w' cx (parse dir code l).1 ∧ Below w0.heap.size w0 w' := by
  by_cases h2 : dir ≠ 0 ∧ dir ≠ 1
  · have e : parse dir code l = (zeroM, 1) := by unfold parse; rw [if_pos h2]
    rw [e]; exact parse_dir hr hc hs hb h2.1 h2.2
  by_cases h3 : code ≠ 20 ∧ code ≠ 21
  · have e : parse dir code l = (zeroM, 4) := by unfold parse; rw [if_neg h2, if_pos h3]
    rw [e]
    have h4 : dir = 0 ∨ dir = 1 := by omega
    rcases h4 with rfl | rfl
    · exact parse_no0 hr hc hs hb h3.1 h3.2
    · exact parse_no1 hr hc hs hb h3.1 h3.2
  have h4 : dir = 0 ∨ dir = 1 := by omega
  have h5 : code = 20 ∨ code = 21 := by omega
  rcases h4 with rfl | rfl <;> rcases h5 with rfl | rfl
  · exact parse_t0 hr hc hs hb
  · exact parse_t2 hr hc hs hb
  · exact parse_t1 hr hc hs hb
  · exact parse_t3 hr hc hs hb
end Go.Proofs.Ytdjeekpgcjcffaa.Fil
end
section
namespace Go.Proofs.Ytdjeekpgcjcffaa.P
open Go.RowKit Go.Proofs.YtdjeekpgcjcffaaW.PrintWords Go.Proofs.YtdjeekpgcjcffaaW.PrintLast Go.Proofs.YtdjeekpgcjcffaaW.PrintMore
attribute [local go_sem] max2_int min2_int max_two min_two max_three min_three max_four min_four   -- for this text's walks alone
def word_Put.l0 : Nat → List Int → List Int → Int → Int → Option (List Int)
  | 0, _, _, _, _ => none
  | k + 1, x3, x6, x7, x8 => if x8 < x7 then (if 0 ≤ x8 then (if x8 < (x6.length : Int) then ((some (([((rd x6 x8) / 256) % 256, (rd x6 x8) % 256] : List Int) : List Int)).bind fun y113 => (if x3.length + y113.length < 140737488355328 then (word_Put.l0 k (x3 ++ y113) x6 x7 (wrap64 (x8 + 1))) else (none))) else (none)) else (none)) else (some x3)
def word_Put.f (k : Nat) (l0 : List Int) : Option (List Int) := word_Put.l0 k ([] : List Int) l0 (l0.length : Int) 0
theorem word_Put.mono_l : ∀ k, (∀ y0 y1 y2 y3, LeO (word_Put.l0 k y0 y1 y2 y3) (word_Put.l0 (k + 1) y0 y1 y2 y3))
  | 0 => fun _ _ _ _ r h => by simp [word_Put.l0] at h
  | k + 1 => by
    have ih0 := word_Put.mono_l k
    · intro y0 y1 y2 y3
      unfold word_Put.l0
      repeat' first
      | (with_reducible exact ih0 _ _ _ _)
      | (with_reducible exact LeO.refl _)
      | (with_reducible exact LeO.none _)
      | (with_reducible refine LeO.ite ?_ ?_)
      | (with_reducible refine LeO.bind ?_ (fun _ => ?_))
      | exact ih0 _ _ _ _
      | exact LeO.none _
      | refine LeO.ite ?_ ?_
      | refine LeO.bind ?_ (fun _ => ?_)
theorem word_Put.mono : ∀ a0 k, LeO (word_Put.f k a0) (word_Put.f (k + 1) a0) := by
  intro a0 k
  have ih0 := word_Put.mono_l k
  unfold word_Put.f
  repeat' first
      | (with_reducible exact ih0 _ _ _ _)
      | (with_reducible exact LeO.refl _)
      | (with_reducible exact LeO.none _)
      | (with_reducible refine LeO.ite ?_ ?_)
      | (with_reducible refine LeO.bind ?_ (fun _ => ?_))
      | exact ih0 _ _ _ _
      | exact LeO.none _
      | refine LeO.ite ?_ ?_
      | refine LeO.bind ?_ (fun _ => ?_)
theorem word_Put.calls (k : Nat) (A0 : Option Addr) (c0 : Nat) (l0 : List Int) (r : List Int) (w : World) (hr0 : Kd.C (Kd.int .u16) w A0 l0.length l0) (hc0 : l0.length ≤ c0) (h : word_Put.f k l0 = some r) :
    Calls Try.prog 49 #[.slice A0 l0.length c0] w fun e w' => ∃ v0_ : Value, e = .returned (v0_) ∧ Kd.R (Kd.int .u8) 5 w' w.heap.size (fun _ => True) v0_ r ∧ Below w.heap.size w w' := by
  have HR0 := Aside0.mk hr0
  have HC0 := Aside0.mk hc0
  clear hr0 hc0
  have HB := Aside0.mk (Below.refl w.heap.size w)
  have H : (word_Put.l0 k ([] : List Int) l0 (l0.length : Int) 0) = some r := h
  clear h
  have H' := Aside0.mk H
  clear H
  go_enter Try.func49, Try.ntmps49
  go_wp2
  go_loopg [3, 8] k (fun kq v3 v8 w' => ∃ (x3_1 : List Int) (x8_1 : Int), v8 = .int .i64 x8_1 ∧ Aside0 (word_Put.l0 kq x3_1 l0 (l0.length : Int) x8_1 = some r) ∧ Aside0 (kq ≤ k) ∧ Aside0 (Kd.R (Kd.int .u8) 5 w' w.heap.size (fun _ => True) v3 x3_1) ∧ Aside0 (Below w.heap.size w w'))
  case atStart => exact ⟨(([] : List Int)), (0), (by first | rfl | (simp; done) | (simp [*]; done)), H', ⟨Nat.le_refl _⟩, ⟨by first | exact Kd.R_nil _ _ _ _ _ | exact Kd.N_nil _ _ _ _ _ | exact Kd.V_nil _ _ _ _ _ | exact Kd.Q_nil _ _ _ _ _ | exact Kd.S_nil _ _ _ _ _⟩, ⟨by repeat (first | (with_reducible first | exact HB.out | apply below_alloc | apply pw_below_drewN | apply below_drew1) | exact HB.out)⟩⟩
  case round =>
    clear H'
    obtain ⟨x3_1, x8_1, rfl, HA, HK1, HO_3, HB⟩ := hrel
    cases gk with
    | zero => exact absurd HA.out (by simp [word_Put.l0])
    | succ k1 =>
      have H := HA.out
      clear HA
      simp only [word_Put.l0] at H
      by_cases c2 : x8_1 < (l0.length : Int)
      · rw [if_pos c2] at H
        have c2b0 : decide (x8_1 < (l0.length : Int)) = true := decide_eq_true c2
        clear c2
        by_cases c3 : 0 ≤ x8_1
        · rw [if_pos c3] at H
          have c3b0 : decide (0 ≤ x8_1) = true := decide_eq_true c3
          clear c3
          by_cases c4 : x8_1 < (l0.length : Int)
          · rw [if_pos c4] at H
            have c4b0 : decide (x8_1 < (l0.length : Int)) = true := decide_eq_true c4
            clear c4
            obtain ⟨y113, hy113⟩ : ∃ y_ : List Int, y_ = (([((rd l0 x8_1) / 256) % 256, (rd l0 x8_1) % 256] : List Int)) := ⟨_, rfl⟩
            replace H : (if x3_1.length + y113.length < 140737488355328 then (word_Put.l0 k1 (x3_1 ++ y113) l0 (l0.length : Int) (wrap64 (x8_1 + 1))) else (none)) = some r := by first | (rw [hy113]; with_reducible exact H) | (have H2_ := (Option.bind_some _ _).symm.trans H; rw [hy113]; with_reducible exact H2_) | (have H2_ := (Option.bind_some _ _).symm.trans H; with_reducible exact H2_) | with_reducible exact H | (rw [hy113]; exact H) | exact H
            have Ny113 := Aside0.mk hy113
            clear hy113
            by_cases c5 : x3_1.length + y113.length < 140737488355328
            · rw [if_pos c5] at H
              have LMc5 := Aside0.mk c5
              clear c5
              obtain ⟨y116, hy116⟩ : ∃ y_ : List Int, y_ = (x3_1 ++ y113) := ⟨_, rfl⟩
              replace H : (word_Put.l0 k1 y116 l0 (l0.length : Int) (wrap64 (x8_1 + 1))) = some r := by first | (rw [hy116]; with_reducible exact H) | (have H2_ := (Option.bind_some _ _).symm.trans H; rw [hy116]; with_reducible exact H2_) | (have H2_ := (Option.bind_some _ _).symm.trans H; with_reducible exact H2_) | with_reducible exact H | (rw [hy116]; exact H) | exact H
              have Ny116 := Aside0.mk hy116
              clear hy116
              have H' := Aside0.mk H
              clear H
              have p112 : 0 ≤ (x8_1 : Int) := of_decide_eq_true (by first | (with_reducible assumption) | assumption)
              have q112 : x8_1 < (l0.length : Int) := of_decide_eq_true (by first | (with_reducible assumption) | assumption)
              obtain ⟨ad112, e112, hx112_0⟩ := Kd.at_int HR0.out x8_1 p112 q112
              cases e112
              replace hx112_0 := (HB.out.cell (World.block_lt_of_cell? w _ hx112_0)).trans hx112_0
              replace p112 := eq_true p112
              replace q112 := eq_true q112
              go_wp2_with (first | ((with_reducible refine gate_dst (N := 18) rfl ?_); refine Kd.R_lit (Kd.int .u8) _ 5 ?hg (N := 18) ?hd (xs := ([((rd l0 x8_1) / 256) % 256, (rd l0 x8_1) % 256] : List Int)) (inner := [.int .u8 (((rd l0 x8_1) / 256) % 256), .int .u8 ((rd l0 x8_1) % 256)]) (ok := fun _ => True) (okp := fun _ => True) ?hr ?hp (fun _ hk => hk) trivial (Below.refl _ _) (Nat.le_refl _) (by simp) ?_; (case hd => rfl); (case hg => rfl); (case hr => first | (go_simp; done) | (go_simp; rfl)); (case hp => exact (Reps.one (show Kd.M (Kd.int .u8) _ _ _ (((rd l0 x8_1) / 256) % 256) [.int .u8 (((rd l0 x8_1) / 256) % 256)] from rfl) (Reps.one (show Kd.M (Kd.int .u8) _ _ _ ((rd l0 x8_1) % 256) [.int .u8 ((rd l0 x8_1) % 256)] from rfl) (Reps.none _ _)))); intro v114 w6 ho7 hb hg_ hnew_; clear hg_ hnew_; (first | rw [← Ny113.out] at ho7 | (simp only [Int.reduceToNat] at ho7; rw [← Ny113.out] at ho7)); have n0_ := Aside0.mk (Kd.R_elder' (by (with_reducible repeat (first | apply Kd.R_alloc | apply Kd.R_drewN | apply Kd.R_drew)); exact HO_3.out) (Kd.R_base ho7) hb); have n1_ := Aside0.mk (Kd.R_lower (Kd.R_new' ho7 (Kd.R_lt (by (with_reducible repeat (first | apply Kd.R_alloc | apply Kd.R_drewN | apply Kd.R_drew)); exact HO_3.out))) (below_size (by repeat (first | (with_reducible first | exact HB.out | apply below_alloc | apply pw_below_drewN | apply below_drew1) | exact HB.out)))); have n2_ := Aside0.mk (below_step (by repeat (first | (with_reducible first | exact HB.out | apply below_alloc | apply pw_below_drewN | apply below_drew1) | exact HB.out)) hb); clear HO_3; clear HB; have HO_3 := n0_; have HO115 := n1_; have HB := n2_; clear n0_ n1_ n2_; clear hb ho7; obtain ⟨Ao9, co9, eo9⟩ := Kd.R_slice HO115.out; subst eo9) | ((with_reducible refine gate_builtin (b := .append) (xs := #[.tmp 12, .tmp 18]) rfl ?_); at_builtin; refine Kd.R_append_rows (Kd.int .u8) (w0 := w) w.heap.size rfl (.tmp 12) (.tmp 18) 22 5 (.int .u8 0) 1 rfl Try.underlying22 info5 rfl (by decide) (by omega) u3 x3_1 y113 _ _ _ (fun k_ => some k_ ≠ (.slice Ao9 y113.length co9 : Value).ownBlock) (fun _ => False) rfl rfl ?aO ?aR (fun _ _ h => h) (fun _ h => h.elim) ?aF ?aB ?aS ?aL ?_; (case aR => repeat (first | exact (Kd.R_reads' HO115.out).2.2 | (with_reducible refine Kd.C_alloc ?_ _) | (with_reducible refine Kd.C_drewN ?_ _) | (with_reducible refine Kd.C_drew ?_))); (case aB => exact (by repeat (first | (with_reducible first | exact HB.out | apply below_alloc | apply pw_below_drewN | apply below_drew1) | exact HB.out))); (case aF => exact (fun k_ hk => Kd.fresh' (Kd.R_lt (by (with_reducible repeat (first | apply Kd.R_alloc | apply Kd.R_drewN | apply Kd.R_drew)); exact HO115.out)) k_ hk)); (case aO => exact (by (with_reducible repeat (first | apply Kd.R_alloc | apply Kd.R_drewN | apply Kd.R_drew)); exact Kd.R_mono HO_3.out (fun _ hk => hk.2))); (case aS => exact (below_size (by repeat (first | (with_reducible first | exact HB.out | apply below_alloc | apply pw_below_drewN | apply below_drew1) | exact HB.out)))); (case aL => have := LMc5.out; omega); intro v117 w8 ho hb hg hat; rw [← Ny116.out] at ho; have n0_ := Aside0.mk (Kd.R_after (ok := (fun _ => True)) (by (with_reducible repeat (first | apply Kd.R_alloc | apply Kd.R_drewN | apply Kd.R_drew)); exact HO115.out) hg hat); have n1_ := Aside0.mk (hb); have n2_ := Aside0.mk (ho); clear HO115; clear HB; clear HO_3; have HO115 := n0_; have HB := n1_; have HO118 := n2_; clear n0_ n1_ n2_; clear ho hb hg hat))
              go_roundg k1
              case measure => have := HK1.out; omega
              case rel => exact ⟨(y116), (wrap64 (x8_1 + 1)), (by first | rfl | (simp; done) | (simp [*]; done)), H', ⟨by have := HK1.out; omega⟩, ⟨by (with_reducible repeat (first | apply Kd.R_alloc | apply Kd.R_drewN | apply Kd.R_drew)); exact Kd.R_mono HO118.out (fun _ hk => trivial)⟩, ⟨by repeat (first | (with_reducible first | exact HB.out | apply below_alloc | apply pw_below_drewN | apply below_drew1) | exact HB.out)⟩⟩
            · rw [if_neg c5] at H
              exact absurd H (by simp)
          · rw [if_neg c4] at H
            exact absurd H (by simp)
        · rw [if_neg c3] at H
          exact absurd H (by simp)
      · rw [if_neg c2] at H
        have c2b0 : decide (x8_1 < (l0.length : Int)) = false := decide_eq_false c2
        clear c2
        obtain rfl := Option.some.inj H
        go_wp2
        go_ret
        exact ⟨_, by first | rfl | (simp [errW_none, errW_some] <;> rfl) | (simp [*, errW_none, errW_some] <;> rfl), by (with_reducible repeat (first | apply Kd.R_alloc | apply Kd.R_drewN | apply Kd.R_drew)); exact HO_3.out, by repeat (first | (with_reducible first | exact HB.out | apply below_alloc | apply pw_below_drewN | apply below_drew1) | exact HB.out)⟩
end Go.Proofs.Ytdjeekpgcjcffaa.P
end
section
namespace Go.Proofs.Ytdjeekpgcjcffaa.P
open Go.RowKit Go.Proofs.YtdjeekpgcjcffaaW.PrintWords Go.Proofs.YtdjeekpgcjcffaaW.PrintLast Go.Proofs.YtdjeekpgcjcffaaW.PrintMore
attribute [local go_sem] max2_int min2_int max_two min_two max_three min_three max_four min_four   -- for this text's walks alone
def busbarref04_Put.l0 : Nat → List Int → List Int → Int → Option (List Int)
  | 0, _, _, _ => none
  | k + 1, x0, x3, x4 => if x4 < (x0.length : Int) then (if 0 ≤ x4 then ((some (([(IntKind.u16.wrap (Int.tdiv (rd x0 x4) 256)) % 256, (Int.tmod (rd x0 x4) 256) % 256] : List Int) : List Int)).bind fun y225 => (if x3.length + y225.length < 140737488355328 then (busbarref04_Put.l0 k x0 (x3 ++ y225) (wrap64 (x4 + 1))) else (none))) else (none)) else (some x3)
def busbarref04_Put.f (k : Nat) (l0 : List Int) : Option (List Int) := busbarref04_Put.l0 k l0 ([] : List Int) 0
theorem busbarref04_Put.mono_l : ∀ k, (∀ y0 y1 y2, LeO (busbarref04_Put.l0 k y0 y1 y2) (busbarref04_Put.l0 (k + 1) y0 y1 y2))
  | 0 => fun _ _ _ r h => by simp [busbarref04_Put.l0] at h
  | k + 1 => by
    have ih0 := busbarref04_Put.mono_l k
    · intro y0 y1 y2
      unfold busbarref04_Put.l0
      repeat' first
      | (with_reducible exact ih0 _ _ _)
      | (with_reducible exact LeO.refl _)
      | (with_reducible exact LeO.none _)
      | (with_reducible refine LeO.ite ?_ ?_)
      | (with_reducible refine LeO.bind ?_ (fun _ => ?_))
      | exact ih0 _ _ _
      | exact LeO.none _
      | refine LeO.ite ?_ ?_
      | refine LeO.bind ?_ (fun _ => ?_)
theorem busbarref04_Put.mono : ∀ a0 k, LeO (busbarref04_Put.f k a0) (busbarref04_Put.f (k + 1) a0) := by
  intro a0 k
  have ih0 := busbarref04_Put.mono_l k
  unfold busbarref04_Put.f
  repeat' first
      | (with_reducible exact ih0 _ _ _)
      | (with_reducible exact LeO.refl _)
      | (with_reducible exact LeO.none _)
      | (with_reducible refine LeO.ite ?_ ?_)
      | (with_reducible refine LeO.bind ?_ (fun _ => ?_))
      | exact ih0 _ _ _
      | exact LeO.none _
      | refine LeO.ite ?_ ?_
      | refine LeO.bind ?_ (fun _ => ?_)
def busbarref04_Put.T5 : Bool × List (List Nat × List Nat) := (true, [([], []), ([], []), ([], []), ([1, 2], [1, 2]), ([3], [3]), ([4], [4]), ([5], [5]), ([], []), ([], []), ([7, 8], [7, 8]), ([9], [9]), ([10], [10]), ([11], [11]), ([6, 12], [6, 12]), ([0, 13], [0, 13]), ([14, 14, 0, 1, 2, 3, 4, 5, 6, 7, 8, 9, 10, 11, 12, 13, 14], [0, 14])])
def busbarref04_Put.B5 : List Nat := [0, 0, 0, 6, 14, 30, 62, 0, 0, 384, 896, 1920, 3968, 8190, 16383, 32767]
theorem busbarref04_Put.tab5 : rtab .any (opsOf Try.f57 5) = busbarref04_Put.T5 := by kernel_rfl
theorem busbarref04_Put.bits5 : waitsOk busbarref04_Put.T5.2 busbarref04_Put.B5 = true := by kernel_rfl
theorem busbarref04_Put.calls (k : Nat) (A0 : Option Addr) (c0 : Nat) (l0 : List Int) (r : List Int) (w : World) (hr0 : Kd.C (Kd.int .u16) w A0 l0.length l0) (hc0 : l0.length ≤ c0) (h : busbarref04_Put.f k l0 = some r) :
    Calls Try.prog 57 #[.slice A0 l0.length c0] w fun e w' => ∃ v0_ : Value, e = .returned (v0_) ∧ Kd.R (Kd.int .u8) 5 w' w.heap.size (fun _ => True) v0_ r ∧ Below w.heap.size w w' := by
  have HR0 := Aside0.mk hr0
  have HC0 := Aside0.mk hc0
  clear hr0 hc0
  have HB := Aside0.mk (Below.refl w.heap.size w)
  have H : (busbarref04_Put.l0 k l0 ([] : List Int) 0) = some r := h
  clear h
  have H' := Aside0.mk H
  clear H
  go_enter Try.func57, Try.ntmps57
  go_wp2
  go_loopg [3, 4] k (fun kq v3 v4 w' => ∃ (x3_1 : List Int) (x4_1 : Int), v4 = .int .i64 x4_1 ∧ Aside0 (busbarref04_Put.l0 kq l0 x3_1 x4_1 = some r) ∧ Aside0 (kq ≤ k) ∧ Aside0 (Kd.R (Kd.int .u8) 5 w' w.heap.size (fun _ => True) v3 x3_1) ∧ Aside0 (Below w.heap.size w w'))
  case atStart => exact ⟨(([] : List Int)), (0), (by first | rfl | (simp; done) | (simp [*]; done)), H', ⟨Nat.le_refl _⟩, ⟨by first | exact Kd.R_nil _ _ _ _ _ | exact Kd.N_nil _ _ _ _ _ | exact Kd.V_nil _ _ _ _ _ | exact Kd.Q_nil _ _ _ _ _ | exact Kd.S_nil _ _ _ _ _⟩, ⟨by repeat (first | (with_reducible first | exact HB.out | apply below_alloc | apply pw_below_drewN | apply below_drew1) | exact HB.out)⟩⟩
  case round =>
    clear H'
    obtain ⟨x3_1, x4_1, rfl, HA, HK1, HO_3, HB⟩ := hrel
    cases gk with
    | zero => exact absurd HA.out (by simp [busbarref04_Put.l0])
    | succ k1 =>
      have H := HA.out
      clear HA
      simp only [busbarref04_Put.l0] at H
      by_cases c2 : x4_1 < (l0.length : Int)
      · rw [if_pos c2] at H
        have c2b0 : decide (x4_1 < (l0.length : Int)) = true := decide_eq_true c2
        clear c2
        by_cases c3 : 0 ≤ x4_1
        · rw [if_pos c3] at H
          have c3b0 : decide (0 ≤ x4_1) = true := decide_eq_true c3
          clear c3
          obtain ⟨y225, hy225⟩ : ∃ y_ : List Int, y_ = (([(IntKind.u16.wrap (Int.tdiv (rd l0 x4_1) 256)) % 256, (Int.tmod (rd l0 x4_1) 256) % 256] : List Int)) := ⟨_, rfl⟩
          replace H : (if x3_1.length + y225.length < 140737488355328 then (busbarref04_Put.l0 k1 l0 (x3_1 ++ y225) (wrap64 (x4_1 + 1))) else (none)) = some r := by first | (rw [hy225]; with_reducible exact H) | (have H2_ := (Option.bind_some _ _).symm.trans H; rw [hy225]; with_reducible exact H2_) | (have H2_ := (Option.bind_some _ _).symm.trans H; with_reducible exact H2_) | with_reducible exact H | (rw [hy225]; exact H) | exact H
          have Ny225 := Aside0.mk hy225
          clear hy225
          by_cases c4 : x3_1.length + y225.length < 140737488355328
          · rw [if_pos c4] at H
            have LMc4 := Aside0.mk c4
            clear c4
            obtain ⟨y228, hy228⟩ : ∃ y_ : List Int, y_ = (x3_1 ++ y225) := ⟨_, rfl⟩
            replace H : (busbarref04_Put.l0 k1 l0 y228 (wrap64 (x4_1 + 1))) = some r := by first | (rw [hy228]; with_reducible exact H) | (have H2_ := (Option.bind_some _ _).symm.trans H; rw [hy228]; with_reducible exact H2_) | (have H2_ := (Option.bind_some _ _).symm.trans H; with_reducible exact H2_) | with_reducible exact H | (rw [hy228]; exact H) | exact H
            have Ny228 := Aside0.mk hy228
            clear hy228
            have H' := Aside0.mk H
            clear H
            try go_wp2
            have n0_ := Aside0.mk (Kd.R_drew HO_3.out)
            have n1_ := Aside0.mk (below_drew1 HB.out)
            clear HO_3
            clear HB
            have HO_3 := n0_
            have HB := n1_
            clear n0_ n1_
            have p223 : 0 ≤ (x4_1 : Int) := of_decide_eq_true (by first | (with_reducible assumption) | assumption)
            have q223 : x4_1 < (l0.length : Int) := of_decide_eq_true (by first | (with_reducible assumption) | assumption)
            obtain ⟨ad223, e223, hx223_0⟩ := Kd.at_int HR0.out x4_1 p223 q223
            have hw223_0 := hx223_0
            cases e223
            replace hx223_0 := (HB.out.cell (World.block_lt_of_cell? w _ hx223_0)).trans hx223_0
            replace p223 := eq_true p223
            replace q223 := eq_true q223
            have p224 : 0 ≤ (x4_1 : Int) := of_decide_eq_true (by first | (with_reducible assumption) | assumption)
            have q224 : x4_1 < (l0.length : Int) := of_decide_eq_true (by first | (with_reducible assumption) | assumption)
            obtain ⟨ad224, e224, hx224_0⟩ := Kd.at_int HR0.out x4_1 p224 q224
            have hw224_0 := hx224_0
            obtain rfl : ad223 = ad224 := (by injection e224)
            replace hx224_0 := (HB.out.cell (World.block_lt_of_cell? w _ hx224_0)).trans hx224_0
            replace p224 := eq_true p224
            replace q224 := eq_true q224
            refine start_ (n := 16) (S := fun w' => w'.cell? (ad223.add (x4_1).toNat) = some (.int .u16 (rd l0 x4_1)) ∧ w'.cell? (ad223.add (x4_1).toNat) = some (.int .u16 (rd l0 x4_1))) (ds := []) #[false, false, false, false, false, false, false, false, false, false, false, false, false, false, false, false] (by kernel_rfl) rfl rfl ⟨((HB.out.cell (World.block_lt_of_cell? w _ hw223_0)).trans hw223_0), ((HB.out.cell (World.block_lt_of_cell? w _ hw224_0)).trans hw224_0)⟩ (fun hHeld => ?_); refine with_tabW busbarref04_Put.tab5 busbarref04_Put.bits5 (fun HT_ HW_ => ?_)
            generalize wr.drew = w5 at HO_3 HB hx223_0 hx224_0 hHeld ⊢
            refine pure_ (i := 0) (N := some 11) (v := ?_) (a' := ?_) #[true, false, false, false, false, false, false, false, false, false, false, false, false, false, false, false] rfl rfl (any_of HT_.out (by kernel_rfl)) (fun _ _ _ h => h) (Or.inl ⟨by rfl, ?_⟩) ?_ ?_
            rotate_left
            · intro w'
              go_simp
              with_reducible rfl
            rotate_left
            · simp only [Act.put, List.setIfInBounds_toArray, List.set_cons_zero, List.set_cons_succ, i64_w, i32_w]
              rfl
            refine pure_ (i := 1) (N := some 12) (v := ?_) (a' := ?_) #[true, true, false, false, false, false, false, false, false, false, false, false, false, false, false, false] rfl rfl (any_of HT_.out (by kernel_rfl)) (fun _ _ _ h => h) (Or.inl ⟨by rfl, ?_⟩) ?_ ?_
            rotate_left
            · intro w'
              go_simp
              with_reducible rfl
            rotate_left
            · simp only [Act.put, List.setIfInBounds_toArray, List.set_cons_zero, List.set_cons_succ, i64_w, i32_w]
              rfl
            refine pure_ (i := 2) (N := some 13) (v := ?_) (a' := ?_) #[true, true, true, false, false, false, false, false, false, false, false, false, false, false, false, false] rfl rfl (any_of HT_.out (by kernel_rfl)) (fun _ _ _ h => h) (Or.inl ⟨by rfl, ?_⟩) ?_ ?_
            rotate_left
            · intro w'
              go_simp
              with_reducible rfl
            rotate_left
            · simp only [Act.put, List.setIfInBounds_toArray, List.set_cons_zero, List.set_cons_succ, i64_w, i32_w]
              rfl
            refine pure_ (i := 3) (N := some 14) (v := ?_) (a' := ?_) #[true, true, true, true, false, false, false, false, false, false, false, false, false, false, false, false] rfl rfl (any_of HT_.out (by kernel_rfl)) (fun _ _ _ h => h) (Or.inl ⟨by rfl, ?_⟩) ?_ ?_
            rotate_left
            · intro w'
              go_simp
              with_reducible rfl
            rotate_left
            · simp only [Act.put, List.setIfInBounds_toArray, List.set_cons_zero, List.set_cons_succ, i64_w, i32_w]
              rfl
            refine pure_ (i := 7) (N := some 18) (v := ?_) (a' := ?_) #[true, true, true, true, false, false, false, true, false, false, false, false, false, false, false, false] rfl rfl (any_of HT_.out (by kernel_rfl)) (fun _ _ _ h => h) (Or.inl ⟨by rfl, ?_⟩) ?_ ?_
            rotate_left
            · intro w'
              go_simp
              with_reducible rfl
            rotate_left
            · simp only [Act.put, List.setIfInBounds_toArray, List.set_cons_zero, List.set_cons_succ, i64_w, i32_w]
              rfl
            refine pure_ (i := 8) (N := some 19) (v := ?_) (a' := ?_) #[true, true, true, true, false, false, false, true, true, false, false, false, false, false, false, false] rfl rfl (any_of HT_.out (by kernel_rfl)) (fun _ _ _ h => h) (Or.inl ⟨by rfl, ?_⟩) ?_ ?_
            rotate_left
            · intro w'
              go_simp
              with_reducible rfl
            rotate_left
            · simp only [Act.put, List.setIfInBounds_toArray, List.set_cons_zero, List.set_cons_succ, i64_w, i32_w]
              rfl
            refine pure_ (i := 9) (N := some 20) (v := ?_) (a' := ?_) #[true, true, true, true, false, false, false, true, true, true, false, false, false, false, false, false] rfl rfl (any_of HT_.out (by kernel_rfl)) (fun _ _ _ h => h) (Or.inl ⟨by rfl, ?_⟩) ?_ ?_
            rotate_left
            · intro w'
              go_simp
              with_reducible rfl
            rotate_left
            · simp only [Act.put, List.setIfInBounds_toArray, List.set_cons_zero, List.set_cons_succ, i64_w, i32_w]
              rfl
            refine take_ (i := 4) (N := some 15) (v := ?_) (a' := ?_) #[true, true, true, true, true, false, false, true, true, true, false, false, false, false, false, false] rfl rfl (take_ofW HT_.out HW_.out (by kernel_rfl)) (fun _ _ _ h => h) (Or.inl ⟨by rfl, ?_⟩) hHeld ?_ ?_
            rotate_left
            · rintro w' ⟨s0, s1⟩
              go_simp
              with_reducible rfl
            rotate_left
            · simp only [Act.put, List.setIfInBounds_toArray, List.set_cons_zero, List.set_cons_succ, i64_w, i32_w]
              rfl
            refine pure_ (i := 5) (N := some 16) (v := ?_) (a' := ?_) #[true, true, true, true, true, true, false, true, true, true, false, false, false, false, false, false] rfl rfl (any_of HT_.out (by kernel_rfl)) (fun _ _ _ h => h) (Or.inl ⟨by rfl, ?_⟩) ?_ ?_
            rotate_left
            · intro w'
              go_simp
              with_reducible rfl
            rotate_left
            · simp only [Act.put, List.setIfInBounds_toArray, List.set_cons_zero, List.set_cons_succ, i64_w, i32_w]
              rfl
            refine pure_ (i := 6) (N := some 17) (v := ?_) (a' := ?_) #[true, true, true, true, true, true, true, true, true, true, false, false, false, false, false, false] rfl rfl (any_of HT_.out (by kernel_rfl)) (fun _ _ _ h => h) (Or.inl ⟨by rfl, ?_⟩) ?_ ?_
            rotate_left
            · intro w'
              go_simp
              with_reducible rfl
            rotate_left
            · simp only [Act.put, List.setIfInBounds_toArray, List.set_cons_zero, List.set_cons_succ, i64_w, i32_w]
              rfl
            refine take_ (i := 10) (N := some 21) (v := ?_) (a' := ?_) #[true, true, true, true, true, true, true, true, true, true, true, false, false, false, false, false] rfl rfl (take_ofW HT_.out HW_.out (by kernel_rfl)) (fun _ _ _ h => h) (Or.inl ⟨by rfl, ?_⟩) hHeld ?_ ?_
            rotate_left
            · rintro w' ⟨s0, s1⟩
              go_simp
              with_reducible rfl
            rotate_left
            · simp only [Act.put, List.setIfInBounds_toArray, List.set_cons_zero, List.set_cons_succ, i64_w, i32_w]
              rfl
            refine pure_ (i := 11) (N := some 22) (v := ?_) (a' := ?_) #[true, true, true, true, true, true, true, true, true, true, true, true, false, false, false, false] rfl rfl (any_of HT_.out (by kernel_rfl)) (fun _ _ _ h => h) (Or.inl ⟨by rfl, ?_⟩) ?_ ?_
            rotate_left
            · intro w'
              go_simp
              with_reducible rfl
            rotate_left
            · simp only [Act.put, List.setIfInBounds_toArray, List.set_cons_zero, List.set_cons_succ, i64_w, i32_w]
              rfl
            refine pure_ (i := 12) (N := some 23) (v := ?_) (a' := ?_) #[true, true, true, true, true, true, true, true, true, true, true, true, true, false, false, false] rfl rfl (any_of HT_.out (by kernel_rfl)) (fun _ _ _ h => h) (Or.inl ⟨by rfl, ?_⟩) ?_ ?_
            rotate_left
            · intro w'
              go_simp
              with_reducible rfl
            rotate_left
            · simp only [Act.put, List.setIfInBounds_toArray, List.set_cons_zero, List.set_cons_succ, i64_w, i32_w]
              rfl
            refine one_ (i := 13) (N := some 24) #[true, true, true, true, true, true, true, true, true, true, true, true, true, true, false, false] rfl rfl (one_of HT_.out (by kernel_rfl)) (by decide) (fun K hK => ?_)
            refine Kd.R_lit_step (Kd.int .u8) _ 5 ?hg (N := 24) ?hd (xs := ([(IntKind.u16.wrap (Int.tdiv (rd l0 x4_1) 256)) % 256, (Int.tmod (rd l0 x4_1) 256) % 256] : List Int)) (inner := [.int .u8 ((IntKind.u16.wrap (Int.tdiv (rd l0 x4_1) 256)) % 256), .int .u8 ((Int.tmod (rd l0 x4_1) 256) % 256)]) (ok := fun _ => True) (okp := fun _ => True) ?hr ?hp (fun _ hk => hk) trivial (Below.refl _ _) (Nat.le_refl _) (by simp) ?_; (case hd => rfl); (case hg => rfl); (case hr => first | (go_simp; done) | (go_simp; rfl)); (case hp => exact (Reps.one (show Kd.M (Kd.int .u8) _ _ _ ((IntKind.u16.wrap (Int.tdiv (rd l0 x4_1) 256)) % 256) [.int .u8 ((IntKind.u16.wrap (Int.tdiv (rd l0 x4_1) 256)) % 256)] from rfl) (Reps.one (show Kd.M (Kd.int .u8) _ _ _ ((Int.tmod (rd l0 x4_1) 256) % 256) [.int .u8 ((Int.tmod (rd l0 x4_1) 256) % 256)] from rfl) (Reps.none _ _))))
            intro v226 w6 ho7 hb hg_ hnew_
            clear hg_ hnew_
            (first | rw [← Ny225.out] at ho7 | (simp only [Int.reduceToNat] at ho7; rw [← Ny225.out] at ho7))
            have n0_ := Aside0.mk (Kd.R_elder' (by (with_reducible repeat (first | apply Kd.R_alloc | apply Kd.R_drewN | apply Kd.R_drew)); exact HO_3.out) (Kd.R_base ho7) hb)
            have n1_ := Aside0.mk (Kd.R_lower (Kd.R_new' ho7 (Kd.R_lt (by (with_reducible repeat (first | apply Kd.R_alloc | apply Kd.R_drewN | apply Kd.R_drew)); exact HO_3.out))) (below_size (by repeat (first | (with_reducible first | exact HB.out | apply below_alloc | apply pw_below_drewN | apply below_drew1) | exact HB.out))))
            have n2_ := Aside0.mk (below_step (by repeat (first | (with_reducible first | exact HB.out | apply below_alloc | apply pw_below_drewN | apply below_drew1) | exact HB.out)) hb)
            clear HO_3
            clear HB
            have HO_3 := n0_
            have HO227 := n1_
            have HB := n2_
            clear n0_ n1_ n2_
            clear hb ho7
            obtain ⟨Ao9, co9, eo9⟩ := Kd.R_slice HO227.out
            (first | subst eo9 | (injection eo9 with f1_ f2_ f3_; have f4_ := f1_.symm; have f5_ := f3_.symm; clear f1_ f2_ f3_; subst f4_; subst f5_))
            refine hK.out _ _ ⟨((HB.out.cell (World.block_lt_of_cell? w _ hw223_0)).trans hw223_0), ((HB.out.cell (World.block_lt_of_cell? w _ hw224_0)).trans hw224_0)⟩ (fun hHeld => ?_)
            clear hK K
            refine norm_ (a' := ?_) ?_ ?_
            rotate_left
            · show Act.put _ (some 24) _ = _
              simp only [Act.put, List.setIfInBounds_toArray, List.set_cons_zero, List.set_cons_succ, i64_w, i32_w]
              rfl
            refine one_ (i := 14) (N := some 25) #[true, true, true, true, true, true, true, true, true, true, true, true, true, true, true, false] rfl rfl (one_of HT_.out (by kernel_rfl)) (by decide) (fun K hK => ?_)
            refine Kd.R_append_rows_step (Kd.int .u8) (w0 := w) w.heap.size (by rfl) (.tmp 11) (.tmp 24) 22 5 (.int .u8 0) 1 rfl Try.underlying22 info5 rfl (by decide) (by omega) u3 x3_1 y225 _ _ _ (fun k_ => some k_ ≠ (.slice Ao9 y225.length co9 : Value).ownBlock) (fun _ => False) rfl rfl ?aO ?aR (fun _ _ h => h) (fun _ h => h.elim) ?aF ?aB ?aS ?aL ?_
            (case aR => repeat (first | exact (Kd.R_reads' HO227.out).2.2 | (with_reducible refine Kd.C_alloc ?_ _) | (with_reducible refine Kd.C_drewN ?_ _) | (with_reducible refine Kd.C_drew ?_)))
            (case aB => exact (by repeat (first | (with_reducible first | exact HB.out | apply below_alloc | apply pw_below_drewN | apply below_drew1) | exact HB.out)))
            (case aF => exact (fun k_ hk => Kd.fresh' (Kd.R_lt (by (with_reducible repeat (first | apply Kd.R_alloc | apply Kd.R_drewN | apply Kd.R_drew)); exact HO227.out)) k_ hk))
            (case aO => exact (by (with_reducible repeat (first | apply Kd.R_alloc | apply Kd.R_drewN | apply Kd.R_drew)); exact Kd.R_mono HO_3.out (fun _ hk => hk.2)))
            (case aS => exact (below_size (by repeat (first | (with_reducible first | exact HB.out | apply below_alloc | apply pw_below_drewN | apply below_drew1) | exact HB.out))))
            (case aL => have := LMc4.out; omega)
            intro v229 w8 ho hb hg hat
            rw [← Ny228.out] at ho
            have n0_ := Aside0.mk (Kd.R_after (ok := (fun _ => True)) (by (with_reducible repeat (first | apply Kd.R_alloc | apply Kd.R_drewN | apply Kd.R_drew)); exact HO227.out) hg hat)
            have n1_ := Aside0.mk (hb)
            have n2_ := Aside0.mk (ho)
            clear HO227
            clear HB
            clear HO_3
            have HO227 := n0_
            have HB := n1_
            have HO230 := n2_
            clear n0_ n1_ n2_
            clear ho hb hg hat
            refine hK.out _ _ ⟨((HB.out.cell (World.block_lt_of_cell? w _ hw223_0)).trans hw223_0), ((HB.out.cell (World.block_lt_of_cell? w _ hw224_0)).trans hw224_0)⟩ (fun hHeld => ?_)
            clear hK K
            refine norm_ (a' := ?_) ?_ ?_
            rotate_left
            · show Act.put _ (some 25) _ = _
              simp only [Act.put, List.setIfInBounds_toArray, List.set_cons_zero, List.set_cons_succ, i64_w, i32_w]
              rfl
            refine pure_ (i := 15) (N := some 3) (v := ?_) (a' := ?_) #[true, true, true, true, true, true, true, true, true, true, true, true, true, true, true, true] rfl rfl (any_of HT_.out (by kernel_rfl)) (fun _ _ _ h => h) (Or.inl ⟨by rfl, ?_⟩) ?_ ?_
            rotate_left
            · intro w'
              go_simp
              with_reducible rfl
            rotate_left
            · simp only [Act.put, List.setIfInBounds_toArray, List.set_cons_zero, List.set_cons_succ, i64_w, i32_w]
              rfl
            refine done_ (done_of HT_.out (by kernel_rfl)) ?_
            try go_wp2
            go_roundg k1
            case measure => have := HK1.out; omega
            case rel => exact ⟨(y228), (wrap64 (x4_1 + 1)), (by first | rfl | (simp; done) | (simp [*]; done)), H', ⟨by have := HK1.out; omega⟩, ⟨by (with_reducible repeat (first | apply Kd.R_alloc | apply Kd.R_drewN | apply Kd.R_drew)); exact Kd.R_mono HO230.out (fun _ hk => trivial)⟩, ⟨by repeat (first | (with_reducible first | exact HB.out | apply below_alloc | apply pw_below_drewN | apply below_drew1) | exact HB.out)⟩⟩
          · rw [if_neg c4] at H
            exact absurd H (by simp)
        · rw [if_neg c3] at H
          exact absurd H (by simp)
      · rw [if_neg c2] at H
        have c2b0 : decide (x4_1 < (l0.length : Int)) = false := decide_eq_false c2
        clear c2
        obtain rfl := Option.some.inj H
        go_wp2
        go_ret
        exact ⟨_, by first | rfl | (simp [errW_none, errW_some] <;> rfl) | (simp [*, errW_none, errW_some] <;> rfl), by (with_reducible repeat (first | apply Kd.R_alloc | apply Kd.R_drewN | apply Kd.R_drew)); exact HO_3.out, by repeat (first | (with_reducible first | exact HB.out | apply below_alloc | apply pw_below_drewN | apply below_drew1) | exact HB.out)⟩
end Go.Proofs.Ytdjeekpgcjcffaa.P
end
section
namespace Go.Proofs.Ytdjeekpgcjcffaa.Put
open Go.RowKit Go.Proofs.Ytdjeekpgcjcffaa.P Go.Proofs.Ytdjeekpgcjcffaa.E Go.Proofs.Ytdjeekpgcjcffaa.Take Go.Proofs.YtdjeekpgcjcffaaW.PrintWords Go.Proofs.YtdjeekpgcjcffaaW.PrintLast Go.Proofs.YtdjeekpgcjcffaaW.PrintMore
def is16 (ws : List Int) : Prop := ∀ w ∈ ws, 0 ≤ w ∧ w < 65536
def putL : List Int → List Int
  | [] => []
  | w :: r => (w / 256) % 256 :: w % 256 :: putL r
theorem putL_length : ∀ ws : List Int, (putL ws).length = 2 * ws.length
  | [] => rfl
  | w :: r => by simp only [putL, List.length_cons, putL_length r]; omega
theorem putL_append : ∀ a b : List Int, putL (a ++ b) = putL a ++ putL b
  | [], b => rfl
  | w :: r, b => by simp only [List.cons_append, putL, putL_append r b]
theorem putL_bytes : ∀ ws : List Int, isBytes (putL ws)
  | [] => fun x h => by cases h
  | w :: r => fun x hx => by
    rcases List.mem_cons.1 hx with rfl | hx
    · omega
    rcases List.mem_cons.1 hx with rfl | hx
    · omega
    · exact putL_bytes r x hx
theorem words_cons (a b : Int) (t : List Int) (ht : t.length % 2 = 0) : words (a :: b :: t) = (a * 256 + b) :: words t := by
  unfold words
  rw [if_pos (by simp only [List.length_cons]; omega), if_pos ht, show (a :: b :: t).length / 2 = t.length / 2 + 1 by simp only [List.length_cons]; omega]
  unfold pre
  rw [List.range_succ_eq_map, List.map_cons, List.map_map]
  congr 1
theorem words_nil : words [] = [] := rfl
theorem words_putL : ∀ {ws : List Int}, is16 ws → words (putL ws) = ws
  | [], _ => rfl
  | w :: r, h => by
    have h1 := h w List.mem_cons_self
    simp only [putL]
    rw [words_cons _ _ _ (by rw [putL_length]; omega), words_putL (fun x hx => h x (List.mem_cons_of_mem _ hx)), show w / 256 % 256 * 256 + w % 256 = w by omega]
theorem words_facts : ∀ (n : Nat) (l : List Int), l.length = 2 * n → isBytes l → putL (words l) = l ∧ is16 (words l) ∧ (words l).length = n
  | 0, l, hn, _ => by
    obtain rfl : l = [] := List.eq_nil_of_length_eq_zero hn
    refine ⟨rfl, fun x hx => ?_, rfl⟩
    exact absurd hx (by rw [words_nil]; exact List.not_mem_nil)
  | n + 1, [], hn, _ => by
    simp only [List.length_nil] at hn
    omega
  | n + 1, [a], hn, _ => by
    simp only [List.length_cons, List.length_nil] at hn
    omega
  | n + 1, a :: b :: t, hn, hb => by
    have hl : t.length = 2 * n := by simp only [List.length_cons] at hn; omega
    have ha := hb a (by simp)
    have hb1 := hb b (by simp)
    obtain ⟨h1, h2, h3⟩ := words_facts n t hl (fun x hx => hb x (by simp [hx]))
    rw [words_cons a b t (by omega)]
    refine ⟨?_, ?_, by rw [List.length_cons, h3]⟩
    · simp only [putL, h1]
      rw [show (a * 256 + b) / 256 % 256 = a by omega, show (a * 256 + b) % 256 = b by omega]
    · intro x hx
      rcases List.mem_cons.1 hx with rfl | hx
      · omega
      · exact h2 x hx
theorem putL_words {l : List Int} (he : l.length % 2 = 0) (hb : isBytes l) : putL (words l) = l := (words_facts (l.length / 2) l (by omega) hb).1
theorem words_length {l : List Int} (he : l.length % 2 = 0) (hb : isBytes l) : (words l).length = l.length / 2 := (words_facts (l.length / 2) l (by omega) hb).2.2
theorem put_l0 (ws : List Int) (h : is16 ws) (hl : ws.length ≤ 1000000) : ∀ (d i : Nat), d = ws.length - i → i ≤ ws.length → word_Put.l0 (d + 1) (putL (ws.take i)) ws (ws.length : Int) (i : Int) = some (putL ws) := by
  intro d
  induction d with
  | zero =>
    intro i hd hi
    have e : i = ws.length := by omega
    subst e
    unfold word_Put.l0
    rw [if_neg (by omega), List.take_length]
  | succ d ih =>
    intro i hd hi
    have hlt : i < ws.length := by omega
    have e1 : rd ws (i : Int) = ws.getD i 0 := by simp [rd]
    have e2 : wrap64 ((i : Int) + 1) = ((i + 1 : Nat) : Int) := by rw [wrap64_id (by omega) (by omega)]; omega
    have e3 : ws.take (i + 1) = ws.take i ++ [ws.getD i 0] := by
      rw [List.take_add_one, List.getD_eq_getElem?_getD, List.getElem?_eq_getElem hlt]; rfl
    have h2 := ih (i + 1) (by omega) (by omega)
    rw [e3, putL_append] at h2
    unfold word_Put.l0
    rw [if_pos (show (i : Int) < (ws.length : Int) by omega), if_pos (show (0 : Int) ≤ (i : Int) by omega), if_pos (show (i : Int) < (ws.length : Int) by omega), e1, e2]
    simp only [Option.bind_some]
    rw [if_pos (show (putL (ws.take i)).length + [ws.getD i 0 / 256 % 256, ws.getD i 0 % 256].length < 140737488355328 by rw [putL_length, List.length_take]; simp only [List.length_cons, List.length_nil]; omega)]
    exact h2
theorem put_ev (ws : List Int) (h : is16 ws) (hl : ws.length ≤ 1000000) : Ev (fun k => word_Put.f k ws) (putL ws) := Ev.of (word_Put.mono ws) (k := ws.length + 1) (put_l0 ws h hl ws.length 0 (by omega) (by omega))
theorem rput_l0 (ws : List Int) (h : is16 ws) (hl : ws.length ≤ 1000000) : ∀ (d i : Nat), d = ws.length - i → i ≤ ws.length → busbarref04_Put.l0 (d + 1) ws (putL (ws.take i)) (i : Int) = some (putL ws) := by
  intro d
  induction d with
  | zero =>
    intro i hd hi
    have e : i = ws.length := by omega
    subst e
    unfold busbarref04_Put.l0
    rw [if_neg (by omega), List.take_length]
  | succ d ih =>
    intro i hd hi
    have hlt : i < ws.length := by omega
    have e1 : rd ws (i : Int) = ws.getD i 0 := by simp [rd]
    have e2 : wrap64 ((i : Int) + 1) = ((i + 1 : Nat) : Int) := by rw [wrap64_id (by omega) (by omega)]; omega
    have e3 : ws.take (i + 1) = ws.take i ++ [ws.getD i 0] := by
      rw [List.take_add_one, List.getD_eq_getElem?_getD, List.getElem?_eq_getElem hlt]; rfl
    have h2 := ih (i + 1) (by omega) (by omega)
    rw [e3, putL_append] at h2
    have hb : 0 ≤ ws.getD i 0 ∧ ws.getD i 0 < 65536 := by
      rw [List.getD_eq_getElem?_getD, List.getElem?_eq_getElem hlt]; exact h _ (List.getElem_mem hlt)
    unfold busbarref04_Put.l0
    rw [if_pos (show (i : Int) < (ws.length : Int) by omega), if_pos (show (0 : Int) ≤ (i : Int) by omega), e1, e2, tdiv_id hb.1, tmod_id hb.1, wrap16 (by omega) (by omega), show ws.getD i 0 % 256 % 256 = ws.getD i 0 % 256 by omega]
    simp only [Option.bind_some]
    rw [if_pos (show (putL (ws.take i)).length + [ws.getD i 0 / 256 % 256, ws.getD i 0 % 256].length < 140737488355328 by rw [putL_length, List.length_take]; simp only [List.length_cons, List.length_nil]; omega)]
    exact h2
theorem rput_ev (ws : List Int) (h : is16 ws) (hl : ws.length ≤ 1000000) : Ev (fun k => busbarref04_Put.f k ws) (putL ws) := Ev.of (busbarref04_Put.mono ws) (k := ws.length + 1) (rput_l0 ws h hl ws.length 0 (by omega) (by omega))
end Go.Proofs.Ytdjeekpgcjcffaa.Put
end
section
namespace Go.Proofs.Ytdjeekpgcjcffaa.P
open Go.RowKit Go.Proofs.YtdjeekpgcjcffaaW.PrintWords Go.Proofs.YtdjeekpgcjcffaaW.PrintLast Go.Proofs.YtdjeekpgcjcffaaW.PrintMore
attribute [local go_sem] max2_int min2_int max_two min_two max_three min_three max_four min_four   -- for this text's walks alone
mutual
def files_lay.l0 : Nat → Int → List Int → List (S43) → Int → Int → Int → Int → Int → Int → Int → Int → Int → Int → Int → Int → Int → Int → List Int → List Bool → List Int → List (S43) → Int → Int → Int → Int → Int → List (S69) → Option (List Int)
  | 0, _, _, _, _, _, _, _, _, _, _, _, _, _, _, _, _, _, _, _, _, _, _, _, _, _, _, _ => none
  | k + 1, x0, x5, x10, x11, x12, x120000, x120001, x120002, x120003, x120004, x120005, x120006, x120007, x120008, x120009, x120010, x120011, x120012, x120013, x120014, x120015, x120016, x120017, x120018, x120019, x120020, x120021 => if x12 < x11 then (if 0 ≤ x12 then (if x12 < (x10.length : Int) then (if x120000 = 20 then (files_lay.j1 k x0 x5 x10 x11 x12 (x0 == 1) x120000 x120001 x120002 x120003 x120004 x120005 x120006 x120007 x120008 x120009 x120010 x120011 x120012 x120013 x120014 x120015 x120016 x120017 x120018 x120019 x120020 x120021 ((rd_T43 x10 x12).f0) ((rd_T43 x10 x12).f1) ((rd_T43 x10 x12).f2) ((rd_T43 x10 x12).f3)) else (files_lay.j1 k x0 x5 x10 x11 x12 false x120000 x120001 x120002 x120003 x120004 x120005 x120006 x120007 x120008 x120009 x120010 x120011 x120012 x120013 x120014 x120015 x120016 x120017 x120018 x120019 x120020 x120021 ((rd_T43 x10 x12).f0) ((rd_T43 x10 x12).f1) ((rd_T43 x10 x12).f2) ((rd_T43 x10 x12).f3))) else (none)) else (none)) else (if 0 < (x5.length : Int) then (some (x5.set (0 : Int).toNat ((wrap64 ((x5.length : Int) - 1)) % 256))) else (none))
def files_lay.j1 : Nat → Int → List Int → List (S43) → Int → Int → Bool → Int → Int → Int → Int → Int → Int → Int → Int → Int → Int → Int → Int → List Int → List Bool → List Int → List (S43) → Int → Int → Int → Int → Int → List (S69) → Int → Int → Int → List Int → Option (List Int)
  | 0, _, _, _, _, _, _, _, _, _, _, _, _, _, _, _, _, _, _, _, _, _, _, _, _, _, _, _, _, _, _, _, _ => none
  | k + 1, x0, x5, x10, x11, x12, x28, x120000, x120001, x120002, x120003, x120004, x120005, x120006, x120007, x120008, x120009, x120010, x120011, x120012, x120013, x120014, x120015, x120016, x120017, x120018, x120019, x120020, x120021, x126000, x126001, x126002, x126003 => if x28 = true then ((some (([(wrap64 (1 + (wrap64 (2 * (x126003.length : Int))))) % 256, 6] : List Int) : List Int)).bind fun y126 => (if x5.length + y126.length < 140737488355328 then ((some (x5 ++ y126 : List Int)).bind fun y129 => ((word_Put.f k x126003).bind fun t132 => (if y129.length + t132.length < 140737488355328 then (files_lay.l0 k x0 (y129 ++ t132) x10 x11 (wrap64 (x12 + 1)) x120000 x120001 x120002 x120003 x120004 x120005 x120006 x120007 x120008 x120009 x120010 x120011 x120012 x120013 x120014 x120015 x120016 x120017 x120018 x120019 x120020 x120021) else (none)))) else (none))) else ((some (([6] : List Int) : List Int)).bind fun y138 => (if x5.length + y138.length < 140737488355328 then ((some (x5 ++ y138 : List Int)).bind fun y141 => ((word_Put.f k (([x126000, x126001, x126002] : List Int))).bind fun t147 => (if y141.length + t147.length < 140737488355328 then ((some (y141 ++ t147 : List Int)).bind fun y150 => ((word_Put.f k x126003).bind fun t153 => (if y150.length + t153.length < 140737488355328 then (files_lay.l0 k x0 (y150 ++ t153) x10 x11 (wrap64 (x12 + 1)) x120000 x120001 x120002 x120003 x120004 x120005 x120006 x120007 x120008 x120009 x120010 x120011 x120012 x120013 x120014 x120015 x120016 x120017 x120018 x120019 x120020 x120021) else (none)))) else (none)))) else (none)))
end
def files_lay.f (k : Nat) (a0 : Int) (a1_0 : Int) (a1_1 : Int) (a1_2 : Int) (a1_3 : Int) (a1_4 : Int) (a1_5 : Int) (a1_6 : Int) (a1_7 : Int) (a1_8 : Int) (a1_9 : Int) (a1_10 : Int) (a1_11 : Int) (l1_12 : List Int) (l1_13 : List Bool) (l1_14 : List Int) (l1_15 : List (S43)) (a1_16 : Int) (a1_17 : Int) (a1_18 : Int) (a1_19 : Int) (a1_20 : Int) (l1_21 : List (S69)) : Option (List Int) := files_lay.l0 k a0 (([0] : List Int)) l1_15 (l1_15.length : Int) 0 a1_0 a1_1 a1_2 a1_3 a1_4 a1_5 a1_6 a1_7 a1_8 a1_9 a1_10 a1_11 l1_12 l1_13 l1_14 l1_15 a1_16 a1_17 a1_18 a1_19 a1_20 l1_21
def files_lay.T5 : Bool × List (List Nat × List Nat) := (true, [([], []), ([], []), ([0, 1], [0, 1]), ([], []), ([3], [3]), ([], []), ([5], [5]), ([], []), ([7], [7]), ([4, 6, 8], [4, 6, 8]), ([9, 2], [9]), ([2, 10, 10], [2, 10]), ([11, 11, 0, 1, 2, 3, 4, 5, 6, 7, 8, 9, 10, 11], [0, 11])])
def files_lay.B5 : List Nat := [0, 0, 3, 0, 8, 0, 32, 0, 128, 504, 1023, 2047, 4095]
theorem files_lay.tab5 : rtab .any (opsOf Try.f31 5) = files_lay.T5 := by kernel_rfl
theorem files_lay.bits5 : waitsOk files_lay.T5.2 files_lay.B5 = true := by kernel_rfl
theorem files_lay.calls (k : Nat) (a0 : Int) (a1_0 : Int) (a1_1 : Int) (a1_2 : Int) (a1_3 : Int) (a1_4 : Int) (a1_5 : Int) (a1_6 : Int) (a1_7 : Int) (a1_8 : Int) (a1_9 : Int) (a1_10 : Int) (a1_11 : Int) (A1_12 : Option Addr) (c1_12 : Nat) (l1_12 : List Int) (A1_13 : Option Addr) (c1_13 : Nat) (l1_13 : List Bool) (A1_14 : Option Addr) (c1_14 : Nat) (l1_14 : List Int) (A1_15 : Option Addr) (c1_15 : Nat) (l1_15 : List (S43)) (a1_16 : Int) (a1_17 : Int) (a1_18 : Int) (a1_19 : Int) (a1_20 : Int) (A1_21 : Option Addr) (c1_21 : Nat) (l1_21 : List (S69)) (r : List Int) (w : World) (hr1_12 : Kd.C (Kd.int .u16) w A1_12 l1_12.length l1_12) (hc1_12 : l1_12.length ≤ c1_12) (hr1_13 : Kd.C Kd.bool w A1_13 l1_13.length l1_13) (hc1_13 : l1_13.length ≤ c1_13) (hr1_14 : Kd.C (Kd.int .u8) w A1_14 l1_14.length l1_14) (hc1_14 : l1_14.length ≤ c1_14) (hr1_15 : Kd.C k43 w A1_15 l1_15.length l1_15) (hc1_15 : l1_15.length ≤ c1_15) (hr1_21 : Kd.C k69 w A1_21 l1_21.length l1_21) (hc1_21 : l1_21.length ≤ c1_21) (h : files_lay.f k a0 a1_0 a1_1 a1_2 a1_3 a1_4 a1_5 a1_6 a1_7 a1_8 a1_9 a1_10 a1_11 l1_12 l1_13 l1_14 l1_15 a1_16 a1_17 a1_18 a1_19 a1_20 l1_21 = some r) :
    Calls Try.prog 31 #[.int .i64 a0, .agg #[.int .u8 a1_0, .int .u8 a1_1, .int .u16 a1_2, .int .u16 a1_3, .int .u16 a1_4, .int .u16 a1_5, .int .u16 a1_6, .int .u16 a1_7, .int .u16 a1_8, .int .u16 a1_9, .int .u16 a1_10, .int .u16 a1_11, .slice A1_12 l1_12.length c1_12, .slice A1_13 l1_13.length c1_13, .slice A1_14 l1_14.length c1_14, .slice A1_15 l1_15.length c1_15, .int .u8 a1_16, .int .u8 a1_17, .int .u8 a1_18, .int .u8 a1_19, .int .u8 a1_20, .slice A1_21 l1_21.length c1_21]] w fun e w' => ∃ v0_ : Value, e = .returned (v0_) ∧ Kd.R (Kd.int .u8) 5 w' w.heap.size (fun _ => True) v0_ r ∧ Below w.heap.size w w' := by
  have hu30 := Try.underlying30
  have hu43 := Try.underlying43
  have HR1_12 := Aside0.mk hr1_12
  have HC1_12 := Aside0.mk hc1_12
  clear hr1_12 hc1_12
  have HR1_13 := Aside0.mk hr1_13
  have HC1_13 := Aside0.mk hc1_13
  clear hr1_13 hc1_13
  have HR1_14 := Aside0.mk hr1_14
  have HC1_14 := Aside0.mk hc1_14
  clear hr1_14 hc1_14
  have HR1_15 := Aside0.mk hr1_15
  have HC1_15 := Aside0.mk hc1_15
  clear hr1_15 hc1_15
  have HR1_21 := Aside0.mk hr1_21
  have HC1_21 := Aside0.mk hc1_21
  clear hr1_21 hc1_21
  have HB := Aside0.mk (Below.refl w.heap.size w)
  have H : (files_lay.l0 k a0 (([0] : List Int)) l1_15 (l1_15.length : Int) 0 a1_0 a1_1 a1_2 a1_3 a1_4 a1_5 a1_6 a1_7 a1_8 a1_9 a1_10 a1_11 l1_12 l1_13 l1_14 l1_15 a1_16 a1_17 a1_18 a1_19 a1_20 l1_21) = some r := h
  clear h
  obtain ⟨y120, hy120⟩ : ∃ y_ : List Int, y_ = (([0] : List Int)) := ⟨_, rfl⟩
  replace H : (files_lay.l0 k a0 y120 l1_15 (l1_15.length : Int) 0 a1_0 a1_1 a1_2 a1_3 a1_4 a1_5 a1_6 a1_7 a1_8 a1_9 a1_10 a1_11 l1_12 l1_13 l1_14 l1_15 a1_16 a1_17 a1_18 a1_19 a1_20 l1_21) = some r := by first | (rw [hy120]; with_reducible exact H) | (have H2_ := (Option.bind_some _ _).symm.trans H; rw [hy120]; with_reducible exact H2_) | (have H2_ := (Option.bind_some _ _).symm.trans H; with_reducible exact H2_) | with_reducible exact H | (rw [hy120]; exact H) | exact H
  have Ny120 := Aside0.mk hy120
  clear hy120
  have H' := Aside0.mk H
  clear H
  go_enter Try.func31, Try.ntmps31
  go_wp2_with (first | ((with_reducible refine gate_dst (N := 3) rfl ?_); refine box_event ?hg (N := 3) ?hd (cs := #[.int .u8 a1_0, .int .u8 a1_1, .int .u16 a1_2, .int .u16 a1_3, .int .u16 a1_4, .int .u16 a1_5, .int .u16 a1_6, .int .u16 a1_7, .int .u16 a1_8, .int .u16 a1_9, .int .u16 a1_10, .int .u16 a1_11, .slice A1_12 l1_12.length c1_12, .slice A1_13 l1_13.length c1_13, .slice A1_14 l1_14.length c1_14, .slice A1_15 l1_15.length c1_15, .int .u8 a1_16, .int .u8 a1_17, .int .u8 a1_18, .int .u8 a1_19, .int .u8 a1_20, .slice A1_21 l1_21.length c1_21]) (t := 30) ?hr ?_; (case hd => rfl); (case hg => rfl); (case hr => first | (go_simp; done) | (go_simp; rfl)); intro gb119 hg w3 hbox hb; have n0_ := Aside0.mk (below_step (by repeat (first | (with_reducible first | exact HB.out | apply below_alloc | apply pw_below_drewN | apply below_drew1) | exact HB.out)) hb); have n1_ := Aside0.mk (hbox); have n2_ := Aside0.mk ((by rw [hg]; exact (below_size (by repeat (first | (with_reducible first | exact HB.out | apply below_alloc | apply pw_below_drewN | apply below_drew1) | exact HB.out))) : w.heap.size ≤ gb119)); have n3_ := Aside0.mk ((by rw [hg]; exact (below_size (by repeat (first | (with_reducible first | exact HB.out | apply below_alloc | apply pw_below_drewN | apply below_drew1) | exact HB.out))) : w.heap.size ≤ gb119)); clear HB; have HB := n0_; have BK119 := n1_; have GW119 := n2_; have GE119 := n3_; clear n0_ n1_ n2_ n3_; clear hb hbox hg) | ((with_reducible refine gate_dst (N := 8) rfl ?_); refine Kd.R_lit (Kd.int .u8) _ 5 ?hg (N := 8) ?hd (xs := ([0] : List Int)) (inner := [.int .u8 0]) (ok := fun _ => True) (okp := fun _ => True) ?hr ?hp (fun _ hk => hk) trivial (Below.refl _ _) (Nat.le_refl _) (by simp) ?_; (case hd => rfl); (case hg => rfl); (case hr => first | (go_simp; done) | (go_simp; rfl)); (case hp => exact (Reps.one (show Kd.M (Kd.int .u8) _ _ _ 0 [.int .u8 0] from rfl) (Reps.none _ _))); intro v121 w4 ho5 hb hg_ hnew_; clear hg_ hnew_; (first | rw [← Ny120.out] at ho5 | (simp only [Int.reduceToNat] at ho5; rw [← Ny120.out] at ho5)); have n0_ := Aside0.mk (Kd.R_lower ho5 (below_size (by repeat (first | (with_reducible first | exact HB.out | apply below_alloc | apply pw_below_drewN | apply below_drew1 | refine below_set ?_ GE119.out) | exact HB.out)))); have n1_ := Aside0.mk (blk_below (g := gb119) (o := .cells #[.int .u8 a1_0, .int .u8 a1_1, .int .u16 a1_2, .int .u16 a1_3, .int .u16 a1_4, .int .u16 a1_5, .int .u16 a1_6, .int .u16 a1_7, .int .u16 a1_8, .int .u16 a1_9, .int .u16 a1_10, .int .u16 a1_11, .slice A1_12 l1_12.length c1_12, .slice A1_13 l1_13.length c1_13, .slice A1_14 l1_14.length c1_14, .slice A1_15 l1_15.length c1_15, .int .u8 a1_16, .int .u8 a1_17, .int .u8 a1_18, .int .u8 a1_19, .int .u8 a1_20, .slice A1_21 l1_21.length c1_21] 30 (0, 0)) (by (with_reducible repeat (first | refine blk_drewN ?_ _ | refine blk_drew ?_ | refine blk_alloc ?_ _)); exact BK119.out) hb); have n2_ := Aside0.mk (below_step (by repeat (first | (with_reducible first | exact HB.out | apply below_alloc | apply pw_below_drewN | apply below_drew1 | refine below_set ?_ GE119.out) | exact HB.out)) hb); clear BK119; clear HB; have HO122 := n0_; have BK119 := n1_; have HB := n2_; clear n0_ n1_ n2_; clear hb ho5; have hcz6_0 : w4.cell? ⟨gb119, 0, none⟩ = some (.int .u8 a1_0) := (blk_cell BK119.out 0).trans rfl; have hcz6_1 : w4.cell? ⟨gb119, 1, none⟩ = some (.int .u8 a1_1) := (blk_cell BK119.out 1).trans rfl; have hcz6_2 : w4.cell? ⟨gb119, 2, none⟩ = some (.int .u16 a1_2) := (blk_cell BK119.out 2).trans rfl; have hcz6_3 : w4.cell? ⟨gb119, 3, none⟩ = some (.int .u16 a1_3) := (blk_cell BK119.out 3).trans rfl; have hcz6_4 : w4.cell? ⟨gb119, 4, none⟩ = some (.int .u16 a1_4) := (blk_cell BK119.out 4).trans rfl; have hcz6_5 : w4.cell? ⟨gb119, 5, none⟩ = some (.int .u16 a1_5) := (blk_cell BK119.out 5).trans rfl; have hcz6_6 : w4.cell? ⟨gb119, 6, none⟩ = some (.int .u16 a1_6) := (blk_cell BK119.out 6).trans rfl; have hcz6_7 : w4.cell? ⟨gb119, 7, none⟩ = some (.int .u16 a1_7) := (blk_cell BK119.out 7).trans rfl; have hcz6_8 : w4.cell? ⟨gb119, 8, none⟩ = some (.int .u16 a1_8) := (blk_cell BK119.out 8).trans rfl; have hcz6_9 : w4.cell? ⟨gb119, 9, none⟩ = some (.int .u16 a1_9) := (blk_cell BK119.out 9).trans rfl; have hcz6_10 : w4.cell? ⟨gb119, 10, none⟩ = some (.int .u16 a1_10) := (blk_cell BK119.out 10).trans rfl; have hcz6_11 : w4.cell? ⟨gb119, 11, none⟩ = some (.int .u16 a1_11) := (blk_cell BK119.out 11).trans rfl; have hcz6_12 : w4.cell? ⟨gb119, 12, none⟩ = some (.slice A1_12 l1_12.length c1_12) := (blk_cell BK119.out 12).trans rfl; have hcz6_13 : w4.cell? ⟨gb119, 13, none⟩ = some (.slice A1_13 l1_13.length c1_13) := (blk_cell BK119.out 13).trans rfl; have hcz6_14 : w4.cell? ⟨gb119, 14, none⟩ = some (.slice A1_14 l1_14.length c1_14) := (blk_cell BK119.out 14).trans rfl; have hcz6_15 : w4.cell? ⟨gb119, 15, none⟩ = some (.slice A1_15 l1_15.length c1_15) := (blk_cell BK119.out 15).trans rfl; have hcz6_16 : w4.cell? ⟨gb119, 16, none⟩ = some (.int .u8 a1_16) := (blk_cell BK119.out 16).trans rfl; have hcz6_17 : w4.cell? ⟨gb119, 17, none⟩ = some (.int .u8 a1_17) := (blk_cell BK119.out 17).trans rfl; have hcz6_18 : w4.cell? ⟨gb119, 18, none⟩ = some (.int .u8 a1_18) := (blk_cell BK119.out 18).trans rfl; have hcz6_19 : w4.cell? ⟨gb119, 19, none⟩ = some (.int .u8 a1_19) := (blk_cell BK119.out 19).trans rfl; have hcz6_20 : w4.cell? ⟨gb119, 20, none⟩ = some (.int .u8 a1_20) := (blk_cell BK119.out 20).trans rfl; have hcz6_21 : w4.cell? ⟨gb119, 21, none⟩ = some (.slice A1_21 l1_21.length c1_21) := (blk_cell BK119.out 21).trans rfl; have hfz6_0 := blk_frozen BK119.out 0; have hfz6_1 := blk_frozen BK119.out 1; have hfz6_2 := blk_frozen BK119.out 2; have hfz6_3 := blk_frozen BK119.out 3; have hfz6_4 := blk_frozen BK119.out 4; have hfz6_5 := blk_frozen BK119.out 5; have hfz6_6 := blk_frozen BK119.out 6; have hfz6_7 := blk_frozen BK119.out 7; have hfz6_8 := blk_frozen BK119.out 8; have hfz6_9 := blk_frozen BK119.out 9; have hfz6_10 := blk_frozen BK119.out 10; have hfz6_11 := blk_frozen BK119.out 11; have hfz6_12 := blk_frozen BK119.out 12; have hfz6_13 := blk_frozen BK119.out 13; have hfz6_14 := blk_frozen BK119.out 14; have hfz6_15 := blk_frozen BK119.out 15; have hfz6_16 := blk_frozen BK119.out 16; have hfz6_17 := blk_frozen BK119.out 17; have hfz6_18 := blk_frozen BK119.out 18; have hfz6_19 := blk_frozen BK119.out 19; have hfz6_20 := blk_frozen BK119.out 20; have hfz6_21 := blk_frozen BK119.out 21))
  go_loopg [5, 12] k (fun kq v5 v12 w' => ∃ (x5_1 : List Int) (x12_1 : Int), v12 = .int .i64 x12_1 ∧ Aside0 (files_lay.l0 kq a0 x5_1 l1_15 (l1_15.length : Int) x12_1 a1_0 a1_1 a1_2 a1_3 a1_4 a1_5 a1_6 a1_7 a1_8 a1_9 a1_10 a1_11 l1_12 l1_13 l1_14 l1_15 a1_16 a1_17 a1_18 a1_19 a1_20 l1_21 = some r) ∧ Aside0 (kq ≤ k) ∧ Aside0 (Kd.R (Kd.int .u8) 5 w' w.heap.size (fun _ => True) v5 x5_1) ∧ Aside0 (w'.heap[gb119]? = some (.cells #[.int .u8 a1_0, .int .u8 a1_1, .int .u16 a1_2, .int .u16 a1_3, .int .u16 a1_4, .int .u16 a1_5, .int .u16 a1_6, .int .u16 a1_7, .int .u16 a1_8, .int .u16 a1_9, .int .u16 a1_10, .int .u16 a1_11, (.slice A1_12 l1_12.length c1_12), (.slice A1_13 l1_13.length c1_13), (.slice A1_14 l1_14.length c1_14), (.slice A1_15 l1_15.length c1_15), .int .u8 a1_16, .int .u8 a1_17, .int .u8 a1_18, .int .u8 a1_19, .int .u8 a1_20, (.slice A1_21 l1_21.length c1_21)] 30 (0, 0))) ∧ Aside0 (Below w.heap.size w w'))
  case atStart => exact ⟨(y120), (0), (by first | rfl | (simp; done) | (simp [*]; done)), H', ⟨Nat.le_refl _⟩, ⟨by (with_reducible repeat (first | apply Kd.R_alloc | apply Kd.R_drewN | apply Kd.R_drew)); exact HO122.out⟩, ⟨by (with_reducible repeat (first | refine blk_drewN ?_ _ | refine blk_drew ?_ | refine blk_alloc ?_ _)); exact BK119.out⟩, ⟨by repeat (first | (with_reducible first | exact HB.out | apply below_alloc | apply pw_below_drewN | apply below_drew1 | refine below_set ?_ GE119.out) | exact HB.out)⟩⟩
  case round =>
    clear H'
    try clear c1
    try clear p2
    try clear c3
    try clear hcz6_0
    try clear hcz6_1
    try clear hcz6_10
    try clear hcz6_11
    try clear hcz6_12
    try clear hcz6_13
    try clear hcz6_14
    try clear hcz6_15
    try clear hcz6_16
    try clear hcz6_17
    try clear hcz6_18
    try clear hcz6_19
    try clear hcz6_2
    try clear hcz6_20
    try clear hcz6_21
    try clear hcz6_3
    try clear hcz6_4
    try clear hcz6_5
    try clear hcz6_6
    try clear hcz6_7
    try clear hcz6_8
    try clear hcz6_9
    try clear hfz6_0
    try clear hfz6_1
    try clear hfz6_10
    try clear hfz6_11
    try clear hfz6_12
    try clear hfz6_13
    try clear hfz6_14
    try clear hfz6_15
    try clear hfz6_16
    try clear hfz6_17
    try clear hfz6_18
    try clear hfz6_19
    try clear hfz6_2
    try clear hfz6_20
    try clear hfz6_21
    try clear hfz6_3
    try clear hfz6_4
    try clear hfz6_5
    try clear hfz6_6
    try clear hfz6_7
    try clear hfz6_8
    try clear hfz6_9
    obtain ⟨x5_1, x12_1, rfl, HA, HK1, HO_5, BK119, HB⟩ := hrel
    cases gk with
    | zero => exact absurd HA.out (by simp [files_lay.l0])
    | succ k1 =>
      have H := HA.out
      clear HA
      simp only [files_lay.l0] at H
      by_cases c7 : x12_1 < (l1_15.length : Int)
      · rw [if_pos c7] at H
        have c7b0 : decide (x12_1 < (l1_15.length : Int)) = true := decide_eq_true c7
        clear c7
        by_cases c8 : 0 ≤ x12_1
        · rw [if_pos c8] at H
          have c8b0 : decide (0 ≤ x12_1) = true := decide_eq_true c8
          clear c8
          by_cases c9 : x12_1 < (l1_15.length : Int)
          · rw [if_pos c9] at H
            have c9b0 : decide (x12_1 < (l1_15.length : Int)) = true := decide_eq_true c9
            clear c9
            have HC10 := Aside0.mk H
            clear H
            have p124 : 0 ≤ (x12_1 : Int) := of_decide_eq_true (by first | (with_reducible assumption) | assumption)
            have q124 : x12_1 < (l1_15.length : Int) := of_decide_eq_true (by first | (with_reducible assumption) | assumption)
            obtain ⟨ad124, A124_3, c124_3, e124, hx124_0, hx124_1, hx124_2, hx124_3, hl124_3, hi124_3⟩ := at_T43 HR1_15.out x12_1 p124 q124
            cases e124
            replace hx124_0 := (HB.out.cell (World.block_lt_of_cell? w _ hx124_0)).trans hx124_0
            replace hx124_1 := (HB.out.cell (World.block_lt_of_cell? w _ hx124_1)).trans hx124_1
            replace hx124_2 := (HB.out.cell (World.block_lt_of_cell? w _ hx124_2)).trans hx124_2
            replace hx124_3 := (HB.out.cell (World.block_lt_of_cell? w _ hx124_3)).trans hx124_3
            have HR124_3 := Aside0.mk hi124_3
            have HC124_3 := Aside0.mk hl124_3
            clear hi124_3 hl124_3
            replace p124 := eq_true p124
            replace q124 := eq_true q124
            go_upto_region 6 with (first | ((with_reducible refine gate_dst (N := 7) rfl ?_); refine box_event ?hg (N := 7) ?hd (cs := #[.int .u16 0, .int .u16 0, .int .u16 0, .slice none 0 0]) (t := 43) ?hr ?_; (case hd => rfl); (case hg => rfl); (case hr => first | (go_simp; done) | (go_simp; rfl)); intro gb125 hg w11 hbox hb; have n0_ := Aside0.mk (Kd.R_below (by (with_reducible repeat (first | apply Kd.R_alloc | apply Kd.R_drewN | apply Kd.R_drew)); exact HO_5.out) hb); have n1_ := Aside0.mk (blk_below (g := gb119) (o := .cells #[.int .u8 a1_0, .int .u8 a1_1, .int .u16 a1_2, .int .u16 a1_3, .int .u16 a1_4, .int .u16 a1_5, .int .u16 a1_6, .int .u16 a1_7, .int .u16 a1_8, .int .u16 a1_9, .int .u16 a1_10, .int .u16 a1_11, .slice A1_12 l1_12.length c1_12, .slice A1_13 l1_13.length c1_13, .slice A1_14 l1_14.length c1_14, .slice (some ad124) l1_15.length c1_15, .int .u8 a1_16, .int .u8 a1_17, .int .u8 a1_18, .int .u8 a1_19, .int .u8 a1_20, .slice A1_21 l1_21.length c1_21] 30 (0, 0)) (by (with_reducible repeat (first | refine blk_drewN ?_ _ | refine blk_drew ?_ | refine blk_alloc ?_ _)); exact BK119.out) hb); have n2_ := Aside0.mk (below_step (by repeat (first | (with_reducible first | exact HB.out | apply below_alloc | apply pw_below_drewN | apply below_drew1 | refine below_set ?_ GE119.out) | exact HB.out)) hb); have n3_ := Aside0.mk (hbox); have n4_ := Aside0.mk ((by rw [hg]; exact (below_size (by repeat (first | (with_reducible first | exact HB.out | apply below_alloc | apply pw_below_drewN | apply below_drew1 | refine below_set ?_ GE119.out) | exact HB.out))) : w.heap.size ≤ gb125)); have n5_ := Aside0.mk ((by rw [hg]; exact (below_size (by repeat (first | (with_reducible first | exact HB.out | apply below_alloc | apply pw_below_drewN | apply below_drew1 | refine below_set ?_ GE119.out) | exact HB.out))) : w.heap.size ≤ gb125)); have n6_ := Aside0.mk ((by rw [hg]; exact Nat.ne_of_lt (blk_lt (g := gb119) (o := .cells #[.int .u8 a1_0, .int .u8 a1_1, .int .u16 a1_2, .int .u16 a1_3, .int .u16 a1_4, .int .u16 a1_5, .int .u16 a1_6, .int .u16 a1_7, .int .u16 a1_8, .int .u16 a1_9, .int .u16 a1_10, .int .u16 a1_11, .slice A1_12 l1_12.length c1_12, .slice A1_13 l1_13.length c1_13, .slice A1_14 l1_14.length c1_14, .slice (some ad124) l1_15.length c1_15, .int .u8 a1_16, .int .u8 a1_17, .int .u8 a1_18, .int .u8 a1_19, .int .u8 a1_20, .slice A1_21 l1_21.length c1_21] 30 (0, 0)) (by (with_reducible repeat (first | refine blk_drewN ?_ _ | refine blk_drew ?_ | refine blk_alloc ?_ _)); exact BK119.out)) : gb119 ≠ gb125)); have n7_ := Aside0.mk ((by rw [hg]; exact Nat.ne_of_gt (blk_lt (g := gb119) (o := .cells #[.int .u8 a1_0, .int .u8 a1_1, .int .u16 a1_2, .int .u16 a1_3, .int .u16 a1_4, .int .u16 a1_5, .int .u16 a1_6, .int .u16 a1_7, .int .u16 a1_8, .int .u16 a1_9, .int .u16 a1_10, .int .u16 a1_11, .slice A1_12 l1_12.length c1_12, .slice A1_13 l1_13.length c1_13, .slice A1_14 l1_14.length c1_14, .slice (some ad124) l1_15.length c1_15, .int .u8 a1_16, .int .u8 a1_17, .int .u8 a1_18, .int .u8 a1_19, .int .u8 a1_20, .slice A1_21 l1_21.length c1_21] 30 (0, 0)) (by (with_reducible repeat (first | refine blk_drewN ?_ _ | refine blk_drew ?_ | refine blk_alloc ?_ _)); exact BK119.out)) : gb125 ≠ gb119)); clear HO_5; clear BK119; clear HB; have HO_5 := n0_; have BK119 := n1_; have HB := n2_; have BK125 := n3_; have GW125 := n4_; have GE125 := n5_; have NB119_125 := n6_; have NB125_119 := n7_; clear n0_ n1_ n2_ n3_ n4_ n5_ n6_ n7_; clear hb hbox hg; have hnb12 := NB125_119.out; have hnc12 := NB119_125.out; have hcz13_0 : w11.cell? ⟨gb125, 0, none⟩ = some (.int .u16 0) := (blk_cell BK125.out 0).trans rfl; have hcz13_1 : w11.cell? ⟨gb125, 1, none⟩ = some (.int .u16 0) := (blk_cell BK125.out 1).trans rfl; have hcz13_2 : w11.cell? ⟨gb125, 2, none⟩ = some (.int .u16 0) := (blk_cell BK125.out 2).trans rfl; have hcz13_3 : w11.cell? ⟨gb125, 3, none⟩ = some (.slice none 0 0) := (blk_cell BK125.out 3).trans rfl; have hfz13_0 := blk_frozen BK125.out 0; have hfz13_1 := blk_frozen BK125.out 1; have hfz13_2 := blk_frozen BK125.out 2; have hfz13_3 := blk_frozen BK125.out 3))
            (try simp only [Act.put, List.setIfInBounds_toArray, List.set_cons_zero, List.set_cons_succ])
            go_cut [28] (fun v28 wc => ∃ (kq : Nat) (x28_9 : Bool), v28 = .bool x28_9 ∧ Aside0 (files_lay.j1 kq a0 x5_1 l1_15 (l1_15.length : Int) x12_1 x28_9 a1_0 a1_1 a1_2 a1_3 a1_4 a1_5 a1_6 a1_7 a1_8 a1_9 a1_10 a1_11 l1_12 l1_13 l1_14 l1_15 a1_16 a1_17 a1_18 a1_19 a1_20 l1_21 ((rd_T43 l1_15 x12_1).f0) ((rd_T43 l1_15 x12_1).f1) ((rd_T43 l1_15 x12_1).f2) ((rd_T43 l1_15 x12_1).f3) = some r) ∧ Aside0 (kq ≤ k1) ∧ Aside0 (Kd.R (Kd.int .u8) 5 wc w.heap.size (fun _ => True) u5 x5_1) ∧ Aside0 (wc.heap[gb119]? = some (.cells #[.int .u8 a1_0, .int .u8 a1_1, .int .u16 a1_2, .int .u16 a1_3, .int .u16 a1_4, .int .u16 a1_5, .int .u16 a1_6, .int .u16 a1_7, .int .u16 a1_8, .int .u16 a1_9, .int .u16 a1_10, .int .u16 a1_11, (.slice A1_12 l1_12.length c1_12), (.slice A1_13 l1_13.length c1_13), (.slice A1_14 l1_14.length c1_14), (.slice (some ad124) l1_15.length c1_15), .int .u8 a1_16, .int .u8 a1_17, .int .u8 a1_18, .int .u8 a1_19, .int .u8 a1_20, (.slice A1_21 l1_21.length c1_21)] 30 (0, 0))) ∧ Aside0 (wc.heap[gb125]? = some (.cells #[.int .u16 ((rd_T43 l1_15 x12_1).f0), .int .u16 ((rd_T43 l1_15 x12_1).f1), .int .u16 ((rd_T43 l1_15 x12_1).f2), (.slice A124_3 ((rd_T43 l1_15 x12_1).f3).length c124_3)] 43 (0, 0))) ∧ Aside0 (Below w.heap.size w wc))
            case first =>
              have H := HC10.out
              clear HC10
              by_cases c14 : a1_0 = 20
              · rw [if_pos c14] at H
                have c14b0 : (a1_0 == 20) = true := beq_iff_eq.mpr c14
                have c14b1 : (a1_0 != 20) = false := bne_eq_false_iff_eq.mpr c14
                clear c14
                (first | rw [c14b0] | (simp only [i64_w, i32_w]; rw [c14b0]) | skip)
                have H' := Aside0.mk H
                clear H
                have hnb15 := NB119_125.out
                have hnc15 := NB125_119.out
                have hcz16_0 : w11.cell? ⟨gb119, 0, none⟩ = some (.int .u8 a1_0) := (blk_cell BK119.out 0).trans rfl
                have hcz16_1 : w11.cell? ⟨gb119, 1, none⟩ = some (.int .u8 a1_1) := (blk_cell BK119.out 1).trans rfl
                have hcz16_2 : w11.cell? ⟨gb119, 2, none⟩ = some (.int .u16 a1_2) := (blk_cell BK119.out 2).trans rfl
                have hcz16_3 : w11.cell? ⟨gb119, 3, none⟩ = some (.int .u16 a1_3) := (blk_cell BK119.out 3).trans rfl
                have hcz16_4 : w11.cell? ⟨gb119, 4, none⟩ = some (.int .u16 a1_4) := (blk_cell BK119.out 4).trans rfl
                have hcz16_5 : w11.cell? ⟨gb119, 5, none⟩ = some (.int .u16 a1_5) := (blk_cell BK119.out 5).trans rfl
                have hcz16_6 : w11.cell? ⟨gb119, 6, none⟩ = some (.int .u16 a1_6) := (blk_cell BK119.out 6).trans rfl
                have hcz16_7 : w11.cell? ⟨gb119, 7, none⟩ = some (.int .u16 a1_7) := (blk_cell BK119.out 7).trans rfl
                have hcz16_8 : w11.cell? ⟨gb119, 8, none⟩ = some (.int .u16 a1_8) := (blk_cell BK119.out 8).trans rfl
                have hcz16_9 : w11.cell? ⟨gb119, 9, none⟩ = some (.int .u16 a1_9) := (blk_cell BK119.out 9).trans rfl
                have hcz16_10 : w11.cell? ⟨gb119, 10, none⟩ = some (.int .u16 a1_10) := (blk_cell BK119.out 10).trans rfl
                have hcz16_11 : w11.cell? ⟨gb119, 11, none⟩ = some (.int .u16 a1_11) := (blk_cell BK119.out 11).trans rfl
                have hcz16_12 : w11.cell? ⟨gb119, 12, none⟩ = some (.slice A1_12 l1_12.length c1_12) := (blk_cell BK119.out 12).trans rfl
                have hcz16_13 : w11.cell? ⟨gb119, 13, none⟩ = some (.slice A1_13 l1_13.length c1_13) := (blk_cell BK119.out 13).trans rfl
                have hcz16_14 : w11.cell? ⟨gb119, 14, none⟩ = some (.slice A1_14 l1_14.length c1_14) := (blk_cell BK119.out 14).trans rfl
                have hcz16_15 : w11.cell? ⟨gb119, 15, none⟩ = some (.slice (some ad124) l1_15.length c1_15) := (blk_cell BK119.out 15).trans rfl
                have hcz16_16 : w11.cell? ⟨gb119, 16, none⟩ = some (.int .u8 a1_16) := (blk_cell BK119.out 16).trans rfl
                have hcz16_17 : w11.cell? ⟨gb119, 17, none⟩ = some (.int .u8 a1_17) := (blk_cell BK119.out 17).trans rfl
                have hcz16_18 : w11.cell? ⟨gb119, 18, none⟩ = some (.int .u8 a1_18) := (blk_cell BK119.out 18).trans rfl
                have hcz16_19 : w11.cell? ⟨gb119, 19, none⟩ = some (.int .u8 a1_19) := (blk_cell BK119.out 19).trans rfl
                have hcz16_20 : w11.cell? ⟨gb119, 20, none⟩ = some (.int .u8 a1_20) := (blk_cell BK119.out 20).trans rfl
                have hcz16_21 : w11.cell? ⟨gb119, 21, none⟩ = some (.slice A1_21 l1_21.length c1_21) := (blk_cell BK119.out 21).trans rfl
                have hfz16_0 := blk_frozen BK119.out 0
                have hfz16_1 := blk_frozen BK119.out 1
                have hfz16_2 := blk_frozen BK119.out 2
                have hfz16_3 := blk_frozen BK119.out 3
                have hfz16_4 := blk_frozen BK119.out 4
                have hfz16_5 := blk_frozen BK119.out 5
                have hfz16_6 := blk_frozen BK119.out 6
                have hfz16_7 := blk_frozen BK119.out 7
                have hfz16_8 := blk_frozen BK119.out 8
                have hfz16_9 := blk_frozen BK119.out 9
                have hfz16_10 := blk_frozen BK119.out 10
                have hfz16_11 := blk_frozen BK119.out 11
                have hfz16_12 := blk_frozen BK119.out 12
                have hfz16_13 := blk_frozen BK119.out 13
                have hfz16_14 := blk_frozen BK119.out 14
                have hfz16_15 := blk_frozen BK119.out 15
                have hfz16_16 := blk_frozen BK119.out 16
                have hfz16_17 := blk_frozen BK119.out 17
                have hfz16_18 := blk_frozen BK119.out 18
                have hfz16_19 := blk_frozen BK119.out 19
                have hfz16_20 := blk_frozen BK119.out 20
                have hfz16_21 := blk_frozen BK119.out 21
                go_wp2
                go_meet
                case rel => exact ⟨_, ((a0 == 1)), (by first | rfl | (simp; done) | (simp [*]; done)), H', ⟨by have := HK1.out; first | omega | exact Nat.le_refl _⟩, ⟨by (with_reducible repeat (first | apply Kd.R_alloc | apply Kd.R_drewN | apply Kd.R_drew)); exact Kd.R_mono (Kd.R_far (p := ⟨gb125, 3, none⟩) (Kd.R_far (p := ⟨gb125, 2, none⟩) (Kd.R_far (p := ⟨gb125, 1, none⟩) (Kd.R_far (p := ⟨gb125, 0, none⟩) (Kd.R_types HO_5.out BK125.out (by decide)) (fun _ hk => hk.2) (.int .u16 ((rd_T43 l1_15 x12_1).f0))) (fun _ hk => hk.2) (.int .u16 ((rd_T43 l1_15 x12_1).f1))) (fun _ hk => hk.2) (.int .u16 ((rd_T43 l1_15 x12_1).f2))) (fun _ hk => hk.2) (.slice A124_3 ((rd_T43 l1_15 x12_1).f3).length c124_3)) (fun _ hk => trivial)⟩, ⟨by (with_reducible repeat (first | refine blk_drewN ?_ _ | refine blk_drew ?_ | refine blk_alloc ?_ _)); refine blk_far ?_ NB119_125.out _; (with_reducible repeat (first | refine blk_drewN ?_ _ | refine blk_drew ?_ | refine blk_alloc ?_ _)); refine blk_far ?_ NB119_125.out _; (with_reducible repeat (first | refine blk_drewN ?_ _ | refine blk_drew ?_ | refine blk_alloc ?_ _)); refine blk_far ?_ NB119_125.out _; (with_reducible repeat (first | refine blk_drewN ?_ _ | refine blk_drew ?_ | refine blk_alloc ?_ _)); refine blk_far ?_ NB119_125.out _; (with_reducible repeat (first | refine blk_drewN ?_ _ | refine blk_drew ?_ | refine blk_alloc ?_ _)); exact BK119.out⟩, ⟨by (with_reducible repeat (first | refine blk_drewN ?_ _ | refine blk_drew ?_ | refine blk_alloc ?_ _)); refine blk_put (cs := #[.int .u16 ((rd_T43 l1_15 x12_1).f0), .int .u16 ((rd_T43 l1_15 x12_1).f1), .int .u16 ((rd_T43 l1_15 x12_1).f2), .slice none 0 0]) ?_ 3 _ rfl; (with_reducible repeat (first | refine blk_drewN ?_ _ | refine blk_drew ?_ | refine blk_alloc ?_ _)); refine blk_put (cs := #[.int .u16 ((rd_T43 l1_15 x12_1).f0), .int .u16 ((rd_T43 l1_15 x12_1).f1), .int .u16 0, .slice none 0 0]) ?_ 2 _ rfl; (with_reducible repeat (first | refine blk_drewN ?_ _ | refine blk_drew ?_ | refine blk_alloc ?_ _)); refine blk_put (cs := #[.int .u16 ((rd_T43 l1_15 x12_1).f0), .int .u16 0, .int .u16 0, .slice none 0 0]) ?_ 1 _ rfl; (with_reducible repeat (first | refine blk_drewN ?_ _ | refine blk_drew ?_ | refine blk_alloc ?_ _)); refine blk_put (cs := #[.int .u16 0, .int .u16 0, .int .u16 0, .slice none 0 0]) ?_ 0 _ rfl; (with_reducible repeat (first | refine blk_drewN ?_ _ | refine blk_drew ?_ | refine blk_alloc ?_ _)); exact BK125.out⟩, ⟨by repeat (first | (with_reducible first | exact HB.out | apply below_alloc | apply pw_below_drewN | apply below_drew1 | refine below_set ?_ GE119.out | refine below_set ?_ GE125.out) | exact HB.out)⟩⟩
              · rw [if_neg c14] at H
                have c14b0 : (a1_0 == 20) = false := beq_eq_false_iff_ne.mpr c14
                have c14b1 : (a1_0 != 20) = true := bne_iff_ne.mpr c14
                (first | rw [c14b0] | (simp only [i64_w, i32_w]; rw [c14b0]) | skip)
                have H' := Aside0.mk H
                clear H
                have hnb17 := NB119_125.out
                have hnc17 := NB125_119.out
                have hcz18_0 : w11.cell? ⟨gb119, 0, none⟩ = some (.int .u8 a1_0) := (blk_cell BK119.out 0).trans rfl
                have hcz18_1 : w11.cell? ⟨gb119, 1, none⟩ = some (.int .u8 a1_1) := (blk_cell BK119.out 1).trans rfl
                have hcz18_2 : w11.cell? ⟨gb119, 2, none⟩ = some (.int .u16 a1_2) := (blk_cell BK119.out 2).trans rfl
                have hcz18_3 : w11.cell? ⟨gb119, 3, none⟩ = some (.int .u16 a1_3) := (blk_cell BK119.out 3).trans rfl
                have hcz18_4 : w11.cell? ⟨gb119, 4, none⟩ = some (.int .u16 a1_4) := (blk_cell BK119.out 4).trans rfl
                have hcz18_5 : w11.cell? ⟨gb119, 5, none⟩ = some (.int .u16 a1_5) := (blk_cell BK119.out 5).trans rfl
                have hcz18_6 : w11.cell? ⟨gb119, 6, none⟩ = some (.int .u16 a1_6) := (blk_cell BK119.out 6).trans rfl
                have hcz18_7 : w11.cell? ⟨gb119, 7, none⟩ = some (.int .u16 a1_7) := (blk_cell BK119.out 7).trans rfl
                have hcz18_8 : w11.cell? ⟨gb119, 8, none⟩ = some (.int .u16 a1_8) := (blk_cell BK119.out 8).trans rfl
                have hcz18_9 : w11.cell? ⟨gb119, 9, none⟩ = some (.int .u16 a1_9) := (blk_cell BK119.out 9).trans rfl
                have hcz18_10 : w11.cell? ⟨gb119, 10, none⟩ = some (.int .u16 a1_10) := (blk_cell BK119.out 10).trans rfl
                have hcz18_11 : w11.cell? ⟨gb119, 11, none⟩ = some (.int .u16 a1_11) := (blk_cell BK119.out 11).trans rfl
                have hcz18_12 : w11.cell? ⟨gb119, 12, none⟩ = some (.slice A1_12 l1_12.length c1_12) := (blk_cell BK119.out 12).trans rfl
                have hcz18_13 : w11.cell? ⟨gb119, 13, none⟩ = some (.slice A1_13 l1_13.length c1_13) := (blk_cell BK119.out 13).trans rfl
                have hcz18_14 : w11.cell? ⟨gb119, 14, none⟩ = some (.slice A1_14 l1_14.length c1_14) := (blk_cell BK119.out 14).trans rfl
                have hcz18_15 : w11.cell? ⟨gb119, 15, none⟩ = some (.slice (some ad124) l1_15.length c1_15) := (blk_cell BK119.out 15).trans rfl
                have hcz18_16 : w11.cell? ⟨gb119, 16, none⟩ = some (.int .u8 a1_16) := (blk_cell BK119.out 16).trans rfl
                have hcz18_17 : w11.cell? ⟨gb119, 17, none⟩ = some (.int .u8 a1_17) := (blk_cell BK119.out 17).trans rfl
                have hcz18_18 : w11.cell? ⟨gb119, 18, none⟩ = some (.int .u8 a1_18) := (blk_cell BK119.out 18).trans rfl
                have hcz18_19 : w11.cell? ⟨gb119, 19, none⟩ = some (.int .u8 a1_19) := (blk_cell BK119.out 19).trans rfl
                have hcz18_20 : w11.cell? ⟨gb119, 20, none⟩ = some (.int .u8 a1_20) := (blk_cell BK119.out 20).trans rfl
                have hcz18_21 : w11.cell? ⟨gb119, 21, none⟩ = some (.slice A1_21 l1_21.length c1_21) := (blk_cell BK119.out 21).trans rfl
                have hfz18_0 := blk_frozen BK119.out 0
                have hfz18_1 := blk_frozen BK119.out 1
                have hfz18_2 := blk_frozen BK119.out 2
                have hfz18_3 := blk_frozen BK119.out 3
                have hfz18_4 := blk_frozen BK119.out 4
                have hfz18_5 := blk_frozen BK119.out 5
                have hfz18_6 := blk_frozen BK119.out 6
                have hfz18_7 := blk_frozen BK119.out 7
                have hfz18_8 := blk_frozen BK119.out 8
                have hfz18_9 := blk_frozen BK119.out 9
                have hfz18_10 := blk_frozen BK119.out 10
                have hfz18_11 := blk_frozen BK119.out 11
                have hfz18_12 := blk_frozen BK119.out 12
                have hfz18_13 := blk_frozen BK119.out 13
                have hfz18_14 := blk_frozen BK119.out 14
                have hfz18_15 := blk_frozen BK119.out 15
                have hfz18_16 := blk_frozen BK119.out 16
                have hfz18_17 := blk_frozen BK119.out 17
                have hfz18_18 := blk_frozen BK119.out 18
                have hfz18_19 := blk_frozen BK119.out 19
                have hfz18_20 := blk_frozen BK119.out 20
                have hfz18_21 := blk_frozen BK119.out 21
                go_wp2
                go_meet
                case rel => exact ⟨_, (false), (by first | rfl | (simp; done) | (simp [*]; done)), H', ⟨by have := HK1.out; first | omega | exact Nat.le_refl _⟩, ⟨by (with_reducible repeat (first | apply Kd.R_alloc | apply Kd.R_drewN | apply Kd.R_drew)); exact Kd.R_mono (Kd.R_far (p := ⟨gb125, 3, none⟩) (Kd.R_far (p := ⟨gb125, 2, none⟩) (Kd.R_far (p := ⟨gb125, 1, none⟩) (Kd.R_far (p := ⟨gb125, 0, none⟩) (Kd.R_types HO_5.out BK125.out (by decide)) (fun _ hk => hk.2) (.int .u16 ((rd_T43 l1_15 x12_1).f0))) (fun _ hk => hk.2) (.int .u16 ((rd_T43 l1_15 x12_1).f1))) (fun _ hk => hk.2) (.int .u16 ((rd_T43 l1_15 x12_1).f2))) (fun _ hk => hk.2) (.slice A124_3 ((rd_T43 l1_15 x12_1).f3).length c124_3)) (fun _ hk => trivial)⟩, ⟨by (with_reducible repeat (first | refine blk_drewN ?_ _ | refine blk_drew ?_ | refine blk_alloc ?_ _)); refine blk_far ?_ NB119_125.out _; (with_reducible repeat (first | refine blk_drewN ?_ _ | refine blk_drew ?_ | refine blk_alloc ?_ _)); refine blk_far ?_ NB119_125.out _; (with_reducible repeat (first | refine blk_drewN ?_ _ | refine blk_drew ?_ | refine blk_alloc ?_ _)); refine blk_far ?_ NB119_125.out _; (with_reducible repeat (first | refine blk_drewN ?_ _ | refine blk_drew ?_ | refine blk_alloc ?_ _)); refine blk_far ?_ NB119_125.out _; (with_reducible repeat (first | refine blk_drewN ?_ _ | refine blk_drew ?_ | refine blk_alloc ?_ _)); exact BK119.out⟩, ⟨by (with_reducible repeat (first | refine blk_drewN ?_ _ | refine blk_drew ?_ | refine blk_alloc ?_ _)); refine blk_put (cs := #[.int .u16 ((rd_T43 l1_15 x12_1).f0), .int .u16 ((rd_T43 l1_15 x12_1).f1), .int .u16 ((rd_T43 l1_15 x12_1).f2), .slice none 0 0]) ?_ 3 _ rfl; (with_reducible repeat (first | refine blk_drewN ?_ _ | refine blk_drew ?_ | refine blk_alloc ?_ _)); refine blk_put (cs := #[.int .u16 ((rd_T43 l1_15 x12_1).f0), .int .u16 ((rd_T43 l1_15 x12_1).f1), .int .u16 0, .slice none 0 0]) ?_ 2 _ rfl; (with_reducible repeat (first | refine blk_drewN ?_ _ | refine blk_drew ?_ | refine blk_alloc ?_ _)); refine blk_put (cs := #[.int .u16 ((rd_T43 l1_15 x12_1).f0), .int .u16 0, .int .u16 0, .slice none 0 0]) ?_ 1 _ rfl; (with_reducible repeat (first | refine blk_drewN ?_ _ | refine blk_drew ?_ | refine blk_alloc ?_ _)); refine blk_put (cs := #[.int .u16 0, .int .u16 0, .int .u16 0, .slice none 0 0]) ?_ 0 _ rfl; (with_reducible repeat (first | refine blk_drewN ?_ _ | refine blk_drew ?_ | refine blk_alloc ?_ _)); exact BK125.out⟩, ⟨by repeat (first | (with_reducible first | exact HB.out | apply below_alloc | apply pw_below_drewN | apply below_drew1 | refine below_set ?_ GE119.out | refine below_set ?_ GE125.out) | exact HB.out)⟩⟩
            case rest =>
              clear HC10
              try clear c1
              try clear p1
              try clear q1
              try clear hx1
              try clear p2
              try clear c3
              try clear c7
              try clear c7b0
              try clear c8
              try clear c8b0
              try clear c9
              try clear c9b0
              try clear c12
              try clear p12
              try clear q12
              try clear hx12
              try clear c14
              try clear c14b0
              try clear c14b1
              try clear c15
              try clear c17
              try clear hcz13_0
              try clear hcz13_1
              try clear hcz13_2
              try clear hcz13_3
              try clear hcz16_0
              try clear hcz16_1
              try clear hcz16_10
              try clear hcz16_11
              try clear hcz16_12
              try clear hcz16_13
              try clear hcz16_14
              try clear hcz16_15
              try clear hcz16_16
              try clear hcz16_17
              try clear hcz16_18
              try clear hcz16_19
              try clear hcz16_2
              try clear hcz16_20
              try clear hcz16_21
              try clear hcz16_3
              try clear hcz16_4
              try clear hcz16_5
              try clear hcz16_6
              try clear hcz16_7
              try clear hcz16_8
              try clear hcz16_9
              try clear hcz18_0
              try clear hcz18_1
              try clear hcz18_10
              try clear hcz18_11
              try clear hcz18_12
              try clear hcz18_13
              try clear hcz18_14
              try clear hcz18_15
              try clear hcz18_16
              try clear hcz18_17
              try clear hcz18_18
              try clear hcz18_19
              try clear hcz18_2
              try clear hcz18_20
              try clear hcz18_21
              try clear hcz18_3
              try clear hcz18_4
              try clear hcz18_5
              try clear hcz18_6
              try clear hcz18_7
              try clear hcz18_8
              try clear hcz18_9
              try clear hcz6_0
              try clear hcz6_1
              try clear hcz6_10
              try clear hcz6_11
              try clear hcz6_12
              try clear hcz6_13
              try clear hcz6_14
              try clear hcz6_15
              try clear hcz6_16
              try clear hcz6_17
              try clear hcz6_18
              try clear hcz6_19
              try clear hcz6_2
              try clear hcz6_20
              try clear hcz6_21
              try clear hcz6_3
              try clear hcz6_4
              try clear hcz6_5
              try clear hcz6_6
              try clear hcz6_7
              try clear hcz6_8
              try clear hcz6_9
              try clear hfz13_0
              try clear hfz13_1
              try clear hfz13_2
              try clear hfz13_3
              try clear hfz16_0
              try clear hfz16_1
              try clear hfz16_10
              try clear hfz16_11
              try clear hfz16_12
              try clear hfz16_13
              try clear hfz16_14
              try clear hfz16_15
              try clear hfz16_16
              try clear hfz16_17
              try clear hfz16_18
              try clear hfz16_19
              try clear hfz16_2
              try clear hfz16_20
              try clear hfz16_21
              try clear hfz16_3
              try clear hfz16_4
              try clear hfz16_5
              try clear hfz16_6
              try clear hfz16_7
              try clear hfz16_8
              try clear hfz16_9
              try clear hfz18_0
              try clear hfz18_1
              try clear hfz18_10
              try clear hfz18_11
              try clear hfz18_12
              try clear hfz18_13
              try clear hfz18_14
              try clear hfz18_15
              try clear hfz18_16
              try clear hfz18_17
              try clear hfz18_18
              try clear hfz18_19
              try clear hfz18_2
              try clear hfz18_20
              try clear hfz18_21
              try clear hfz18_3
              try clear hfz18_4
              try clear hfz18_5
              try clear hfz18_6
              try clear hfz18_7
              try clear hfz18_8
              try clear hfz18_9
              try clear hfz6_0
              try clear hfz6_1
              try clear hfz6_10
              try clear hfz6_11
              try clear hfz6_12
              try clear hfz6_13
              try clear hfz6_14
              try clear hfz6_15
              try clear hfz6_16
              try clear hfz6_17
              try clear hfz6_18
              try clear hfz6_19
              try clear hfz6_2
              try clear hfz6_20
              try clear hfz6_21
              try clear hfz6_3
              try clear hfz6_4
              try clear hfz6_5
              try clear hfz6_6
              try clear hfz6_7
              try clear hfz6_8
              try clear hfz6_9
              try clear hx124_0
              try clear hx124_1
              try clear hx124_2
              try clear hx124_3
              try clear p124
              try clear p2
              try clear q124
              obtain ⟨kq, x28_9, rfl, HA, HJ9, HO_5, BK119, BK125, HB⟩ := hcut
              cases kq with
              | zero => exact absurd HA.out (by simp [files_lay.j1])
              | succ kj9 =>
                have H := HA.out
                clear HA
                simp only [files_lay.j1] at H
                by_cases c19 : x28_9 = true
                · subst c19
                  have H1 : ((some (([(wrap64 (1 + (wrap64 (2 * (((rd_T43 l1_15 x12_1).f3).length : Int))))) % 256, 6] : List Int) : List Int)).bind fun y126 => (if x5_1.length + y126.length < 140737488355328 then ((some (x5_1 ++ y126 : List Int)).bind fun y129 => ((word_Put.f kj9 ((rd_T43 l1_15 x12_1).f3)).bind fun t132 => (if y129.length + t132.length < 140737488355328 then (files_lay.l0 kj9 a0 (y129 ++ t132) l1_15 (l1_15.length : Int) (wrap64 (x12_1 + 1)) a1_0 a1_1 a1_2 a1_3 a1_4 a1_5 a1_6 a1_7 a1_8 a1_9 a1_10 a1_11 l1_12 l1_13 l1_14 l1_15 a1_16 a1_17 a1_18 a1_19 a1_20 l1_21) else (none)))) else (none))) = some r := by rw [if_pos rfl] at H; exact H
                  clear H
                  have H := H1
                  clear H1
                  obtain ⟨y126, hy126⟩ : ∃ y_ : List Int, y_ = (([(wrap64 (1 + (wrap64 (2 * (((rd_T43 l1_15 x12_1).f3).length : Int))))) % 256, 6] : List Int)) := ⟨_, rfl⟩
                  replace H : (if x5_1.length + y126.length < 140737488355328 then ((some (x5_1 ++ y126 : List Int)).bind fun y129 => ((word_Put.f kj9 ((rd_T43 l1_15 x12_1).f3)).bind fun t132 => (if y129.length + t132.length < 140737488355328 then (files_lay.l0 kj9 a0 (y129 ++ t132) l1_15 (l1_15.length : Int) (wrap64 (x12_1 + 1)) a1_0 a1_1 a1_2 a1_3 a1_4 a1_5 a1_6 a1_7 a1_8 a1_9 a1_10 a1_11 l1_12 l1_13 l1_14 l1_15 a1_16 a1_17 a1_18 a1_19 a1_20 l1_21) else (none)))) else (none)) = some r := by first | (rw [hy126]; with_reducible exact H) | (have H2_ := (Option.bind_some _ _).symm.trans H; rw [hy126]; with_reducible exact H2_) | (have H2_ := (Option.bind_some _ _).symm.trans H; with_reducible exact H2_) | with_reducible exact H | (rw [hy126]; exact H) | exact H
                  have Ny126 := Aside0.mk hy126
                  clear hy126
                  by_cases c20 : x5_1.length + y126.length < 140737488355328
                  · rw [if_pos c20] at H
                    have LMc20 := Aside0.mk c20
                    clear c20
                    obtain ⟨y129, hy129⟩ : ∃ y_ : List Int, y_ = (x5_1 ++ y126) := ⟨_, rfl⟩
                    replace H : ((word_Put.f kj9 ((rd_T43 l1_15 x12_1).f3)).bind fun t132 => (if y129.length + t132.length < 140737488355328 then (files_lay.l0 kj9 a0 (y129 ++ t132) l1_15 (l1_15.length : Int) (wrap64 (x12_1 + 1)) a1_0 a1_1 a1_2 a1_3 a1_4 a1_5 a1_6 a1_7 a1_8 a1_9 a1_10 a1_11 l1_12 l1_13 l1_14 l1_15 a1_16 a1_17 a1_18 a1_19 a1_20 l1_21) else (none))) = some r := by first | (rw [hy129]; with_reducible exact H) | (have H2_ := (Option.bind_some _ _).symm.trans H; rw [hy129]; with_reducible exact H2_) | (have H2_ := (Option.bind_some _ _).symm.trans H; with_reducible exact H2_) | with_reducible exact H | (rw [hy129]; exact H) | exact H
                    have Ny129 := Aside0.mk hy129
                    clear hy129
                    replace H := Option.bind_eq_some_iff.mp H
                    obtain ⟨t132, A210, H⟩ := H
                    replace H : (if y129.length + t132.length < 140737488355328 then (files_lay.l0 kj9 a0 (y129 ++ t132) l1_15 (l1_15.length : Int) (wrap64 (x12_1 + 1)) a1_0 a1_1 a1_2 a1_3 a1_4 a1_5 a1_6 a1_7 a1_8 a1_9 a1_10 a1_11 l1_12 l1_13 l1_14 l1_15 a1_16 a1_17 a1_18 a1_19 a1_20 l1_21) else (none)) = some r := H
                    have A21 := Aside0.mk A210
                    clear A210
                    by_cases c22 : y129.length + t132.length < 140737488355328
                    · rw [if_pos c22] at H
                      have LMc22 := Aside0.mk c22
                      clear c22
                      obtain ⟨y135, hy135⟩ : ∃ y_ : List Int, y_ = (y129 ++ t132) := ⟨_, rfl⟩
                      replace H : (files_lay.l0 kj9 a0 y135 l1_15 (l1_15.length : Int) (wrap64 (x12_1 + 1)) a1_0 a1_1 a1_2 a1_3 a1_4 a1_5 a1_6 a1_7 a1_8 a1_9 a1_10 a1_11 l1_12 l1_13 l1_14 l1_15 a1_16 a1_17 a1_18 a1_19 a1_20 l1_21) = some r := by first | (rw [hy135]; with_reducible exact H) | (have H2_ := (Option.bind_some _ _).symm.trans H; rw [hy135]; with_reducible exact H2_) | (have H2_ := (Option.bind_some _ _).symm.trans H; with_reducible exact H2_) | with_reducible exact H | (rw [hy135]; exact H) | exact H
                      have Ny135 := Aside0.mk hy135
                      clear hy135
                      have H' := Aside0.mk H
                      clear H
                      have hnb23 := NB125_119.out
                      have hnc23 := NB119_125.out
                      have hcz24_0 : wc.cell? ⟨gb125, 0, none⟩ = some (.int .u16 ((rd_T43 l1_15 x12_1).f0)) := (blk_cell BK125.out 0).trans rfl
                      have hcz24_1 : wc.cell? ⟨gb125, 1, none⟩ = some (.int .u16 ((rd_T43 l1_15 x12_1).f1)) := (blk_cell BK125.out 1).trans rfl
                      have hcz24_2 : wc.cell? ⟨gb125, 2, none⟩ = some (.int .u16 ((rd_T43 l1_15 x12_1).f2)) := (blk_cell BK125.out 2).trans rfl
                      have hcz24_3 : wc.cell? ⟨gb125, 3, none⟩ = some (.slice A124_3 ((rd_T43 l1_15 x12_1).f3).length c124_3) := (blk_cell BK125.out 3).trans rfl
                      have hfz24_0 := blk_frozen BK125.out 0
                      have hfz24_1 := blk_frozen BK125.out 1
                      have hfz24_2 := blk_frozen BK125.out 2
                      have hfz24_3 := blk_frozen BK125.out 3
                      go_wp2_with (first | ((with_reducible refine gate_dst (N := 43) rfl ?_); refine Kd.R_lit (Kd.int .u8) _ 5 ?hg (N := 43) ?hd (xs := ([(wrap64 (1 + (wrap64 (2 * (((rd_T43 l1_15 x12_1).f3).length : Int))))) % 256, 6] : List Int)) (inner := [.int .u8 ((wrap64 (1 + (wrap64 (2 * (((rd_T43 l1_15 x12_1).f3).length : Int))))) % 256), .int .u8 6]) (ok := fun _ => True) (okp := fun _ => True) ?hr ?hp (fun _ hk => hk) trivial (Below.refl _ _) (Nat.le_refl _) (by simp) ?_; (case hd => rfl); (case hg => rfl); (case hr => first | (go_simp; done) | (go_simp; rfl)); (case hp => exact (Reps.one (show Kd.M (Kd.int .u8) _ _ _ ((wrap64 (1 + (wrap64 (2 * (((rd_T43 l1_15 x12_1).f3).length : Int))))) % 256) [.int .u8 ((wrap64 (1 + (wrap64 (2 * (((rd_T43 l1_15 x12_1).f3).length : Int))))) % 256)] from rfl) (Reps.one (show Kd.M (Kd.int .u8) _ _ _ 6 [.int .u8 6] from rfl) (Reps.none _ _)))); intro v127 w25 ho26 hb hg_ hnew_; clear hg_ hnew_; (first | rw [← Ny126.out] at ho26 | (simp only [Int.reduceToNat] at ho26; rw [← Ny126.out] at ho26)); have n0_ := Aside0.mk (Kd.R_elder' (by (with_reducible repeat (first | apply Kd.R_alloc | apply Kd.R_drewN | apply Kd.R_drew)); exact HO_5.out) (Kd.R_base ho26) hb); have n1_ := Aside0.mk (Kd.R_lower (Kd.R_new' ho26 (Kd.R_lt (by (with_reducible repeat (first | apply Kd.R_alloc | apply Kd.R_drewN | apply Kd.R_drew)); exact HO_5.out))) (below_size (by repeat (first | (with_reducible first | exact HB.out | apply below_alloc | apply pw_below_drewN | apply below_drew1 | refine below_set ?_ GE119.out | refine below_set ?_ GE125.out) | exact HB.out)))); have n2_ := Aside0.mk (blk_below (g := gb119) (o := .cells #[.int .u8 a1_0, .int .u8 a1_1, .int .u16 a1_2, .int .u16 a1_3, .int .u16 a1_4, .int .u16 a1_5, .int .u16 a1_6, .int .u16 a1_7, .int .u16 a1_8, .int .u16 a1_9, .int .u16 a1_10, .int .u16 a1_11, .slice A1_12 l1_12.length c1_12, .slice A1_13 l1_13.length c1_13, .slice A1_14 l1_14.length c1_14, .slice (some ad124) l1_15.length c1_15, .int .u8 a1_16, .int .u8 a1_17, .int .u8 a1_18, .int .u8 a1_19, .int .u8 a1_20, .slice A1_21 l1_21.length c1_21] 30 (0, 0)) (by (with_reducible repeat (first | refine blk_drewN ?_ _ | refine blk_drew ?_ | refine blk_alloc ?_ _)); exact BK119.out) hb); have n3_ := Aside0.mk (blk_below (g := gb125) (o := .cells #[.int .u16 ((rd_T43 l1_15 x12_1).f0), .int .u16 ((rd_T43 l1_15 x12_1).f1), .int .u16 ((rd_T43 l1_15 x12_1).f2), .slice A124_3 ((rd_T43 l1_15 x12_1).f3).length c124_3] 43 (0, 0)) (by (with_reducible repeat (first | refine blk_drewN ?_ _ | refine blk_drew ?_ | refine blk_alloc ?_ _)); exact BK125.out) hb); have n4_ := Aside0.mk (below_step (by repeat (first | (with_reducible first | exact HB.out | apply below_alloc | apply pw_below_drewN | apply below_drew1 | refine below_set ?_ GE119.out | refine below_set ?_ GE125.out) | exact HB.out)) hb); clear HO_5; clear BK119; clear BK125; clear HB; have HO_5 := n0_; have HO128 := n1_; have BK119 := n2_; have BK125 := n3_; have HB := n4_; clear n0_ n1_ n2_ n3_ n4_; clear hb ho26; obtain ⟨Ao28, co28, eo28⟩ := Kd.R_slice HO128.out; subst eo28) | ((with_reducible refine gate_builtin (b := .append) (xs := #[.tmp 36, .tmp 43]) rfl ?_); at_builtin; refine Kd.R_append_rows (Kd.int .u8) (w0 := w) w.heap.size rfl (.tmp 36) (.tmp 43) 22 5 (.int .u8 0) 1 rfl Try.underlying22 info5 rfl (by decide) (by omega) u5 x5_1 y126 _ _ _ (fun k_ => some k_ ≠ (.slice Ao28 y126.length co28 : Value).ownBlock) (fun _ => False) rfl rfl ?aO ?aR (fun _ _ h => h) (fun _ h => h.elim) ?aF ?aB ?aS ?aL ?_; (case aR => repeat (first | exact (Kd.R_reads' HO128.out).2.2 | (with_reducible refine Kd.C_alloc ?_ _) | (with_reducible refine Kd.C_drewN ?_ _) | (with_reducible refine Kd.C_drew ?_))); (case aB => exact (by repeat (first | (with_reducible first | exact HB.out | apply below_alloc | apply pw_below_drewN | apply below_drew1 | refine below_set ?_ GE119.out | refine below_set ?_ GE125.out) | exact HB.out))); (case aF => exact (fun k_ hk => Kd.fresh' (Kd.R_lt (by (with_reducible repeat (first | apply Kd.R_alloc | apply Kd.R_drewN | apply Kd.R_drew)); exact HO128.out)) k_ hk)); (case aO => exact (by (with_reducible repeat (first | apply Kd.R_alloc | apply Kd.R_drewN | apply Kd.R_drew)); exact Kd.R_mono HO_5.out (fun _ hk => hk.2))); (case aS => exact (below_size (by repeat (first | (with_reducible first | exact HB.out | apply below_alloc | apply pw_below_drewN | apply below_drew1 | refine below_set ?_ GE119.out | refine below_set ?_ GE125.out) | exact HB.out)))); (case aL => have := LMc20.out; omega); intro v130 w27 ho hb hg hat; rw [← Ny129.out] at ho; have n0_ := Aside0.mk (blk_grown (g := gb119) (o := .cells #[.int .u8 a1_0, .int .u8 a1_1, .int .u16 a1_2, .int .u16 a1_3, .int .u16 a1_4, .int .u16 a1_5, .int .u16 a1_6, .int .u16 a1_7, .int .u16 a1_8, .int .u16 a1_9, .int .u16 a1_10, .int .u16 a1_11, .slice A1_12 l1_12.length c1_12, .slice A1_13 l1_13.length c1_13, .slice A1_14 l1_14.length c1_14, .slice (some ad124) l1_15.length c1_15, .int .u8 a1_16, .int .u8 a1_17, .int .u8 a1_18, .int .u8 a1_19, .int .u8 a1_20, .slice A1_21 l1_21.length c1_21] 30 (0, 0)) (by (with_reducible repeat (first | refine blk_drewN ?_ _ | refine blk_drew ?_ | refine blk_alloc ?_ _)); exact BK119.out) hg (Kd.R_ne HO_5.out BK119.out (by decide))); have n1_ := Aside0.mk (blk_grown (g := gb125) (o := .cells #[.int .u16 ((rd_T43 l1_15 x12_1).f0), .int .u16 ((rd_T43 l1_15 x12_1).f1), .int .u16 ((rd_T43 l1_15 x12_1).f2), .slice A124_3 ((rd_T43 l1_15 x12_1).f3).length c124_3] 43 (0, 0)) (by (with_reducible repeat (first | refine blk_drewN ?_ _ | refine blk_drew ?_ | refine blk_alloc ?_ _)); exact BK125.out) hg (Kd.R_ne HO_5.out BK125.out (by decide))); have n2_ := Aside0.mk (Kd.R_after (ok := (fun _ => True)) (by (with_reducible repeat (first | apply Kd.R_alloc | apply Kd.R_drewN | apply Kd.R_drew)); exact HO128.out) hg hat); have n3_ := Aside0.mk (hb); have n4_ := Aside0.mk (ho); clear BK119; clear BK125; clear HO128; clear HB; clear HO_5; have BK119 := n0_; have BK125 := n1_; have HO128 := n2_; have HB := n3_; have HO131 := n4_; clear n0_ n1_ n2_ n3_ n4_; clear ho hb hg hat; have hcz29_0 : w27.cell? ⟨gb125, 0, none⟩ = some (.int .u16 ((rd_T43 l1_15 x12_1).f0)) := (blk_cell BK125.out 0).trans rfl; have hcz29_1 : w27.cell? ⟨gb125, 1, none⟩ = some (.int .u16 ((rd_T43 l1_15 x12_1).f1)) := (blk_cell BK125.out 1).trans rfl; have hcz29_2 : w27.cell? ⟨gb125, 2, none⟩ = some (.int .u16 ((rd_T43 l1_15 x12_1).f2)) := (blk_cell BK125.out 2).trans rfl; have hcz29_3 : w27.cell? ⟨gb125, 3, none⟩ = some (.slice A124_3 ((rd_T43 l1_15 x12_1).f3).length c124_3) := (blk_cell BK125.out 3).trans rfl; have hfz29_0 := blk_frozen BK125.out 0; have hfz29_1 := blk_frozen BK125.out 1; have hfz29_2 := blk_frozen BK125.out 2; have hfz29_3 := blk_frozen BK125.out 3) | ((with_reducible refine gate_callee (f := 49) rfl ?_); refine goesL_ (some 48) rfl rfl Try.func49 (by kernel_rfl) rfl #[.slice A124_3 ((rd_T43 l1_15 x12_1).f3).length c124_3] rfl (by (try simp only [List.map_toArray, List.map_cons, List.map_nil]); first | done | rfl | (simp only [List.length_drop, List.length_take]; rfl)) ?_; (with_reducible refine (word_Put.calls kj9 _ _ ((rd_T43 l1_15 x12_1).f3) t132 _ ?side1 ?side2 A21.out).mono ?_); (case side1 => repeat (first | exact (Kd.C_below HR124_3.out HB.out) | (with_reducible refine Kd.C_alloc ?_ _) | (with_reducible refine Kd.C_drewN ?_ _) | (with_reducible refine Kd.C_drew ?_))); (case side2 => exact HC124_3.out); rintro e w30 ⟨v133, rfl, ho0, hb⟩; refine ⟨_, rfl, ?_⟩; have n0_ := Aside0.mk (Kd.R_elder' (by (with_reducible repeat (first | apply Kd.R_alloc | apply Kd.R_drewN | apply Kd.R_drew)); exact HO128.out) (Kd.R_base ho0) hb); have n1_ := Aside0.mk (Kd.R_elder' (by (with_reducible repeat (first | apply Kd.R_alloc | apply Kd.R_drewN | apply Kd.R_drew)); exact HO131.out) (Kd.R_base ho0) hb); have n2_ := Aside0.mk (Kd.R_lower (Kd.R_new' (Kd.R_new' ho0 (Kd.R_lt (by (with_reducible repeat (first | apply Kd.R_alloc | apply Kd.R_drewN | apply Kd.R_drew)); exact HO128.out))) (Kd.R_lt (by (with_reducible repeat (first | apply Kd.R_alloc | apply Kd.R_drewN | apply Kd.R_drew)); exact HO131.out))) (below_size (by repeat (first | (with_reducible first | exact HB.out | apply below_alloc | apply pw_below_drewN | apply below_drew1 | refine below_set ?_ GE119.out | refine below_set ?_ GE125.out) | exact HB.out)))); have n3_ := Aside0.mk (blk_below (g := gb119) (o := .cells #[.int .u8 a1_0, .int .u8 a1_1, .int .u16 a1_2, .int .u16 a1_3, .int .u16 a1_4, .int .u16 a1_5, .int .u16 a1_6, .int .u16 a1_7, .int .u16 a1_8, .int .u16 a1_9, .int .u16 a1_10, .int .u16 a1_11, .slice A1_12 l1_12.length c1_12, .slice A1_13 l1_13.length c1_13, .slice A1_14 l1_14.length c1_14, .slice (some ad124) l1_15.length c1_15, .int .u8 a1_16, .int .u8 a1_17, .int .u8 a1_18, .int .u8 a1_19, .int .u8 a1_20, .slice A1_21 l1_21.length c1_21] 30 (0, 0)) (by (with_reducible repeat (first | refine blk_drewN ?_ _ | refine blk_drew ?_ | refine blk_alloc ?_ _)); exact BK119.out) hb); have n4_ := Aside0.mk (blk_below (g := gb125) (o := .cells #[.int .u16 ((rd_T43 l1_15 x12_1).f0), .int .u16 ((rd_T43 l1_15 x12_1).f1), .int .u16 ((rd_T43 l1_15 x12_1).f2), .slice A124_3 ((rd_T43 l1_15 x12_1).f3).length c124_3] 43 (0, 0)) (by (with_reducible repeat (first | refine blk_drewN ?_ _ | refine blk_drew ?_ | refine blk_alloc ?_ _)); exact BK125.out) hb); have n5_ := Aside0.mk (below_step (by repeat (first | (with_reducible first | exact HB.out | apply below_alloc | apply pw_below_drewN | apply below_drew1 | refine below_set ?_ GE119.out | refine below_set ?_ GE125.out) | exact HB.out)) hb); clear HO128; clear HO131; clear BK119; clear BK125; clear HB; have HO128 := n0_; have HO131 := n1_; have HO134 := n2_; have BK119 := n3_; have BK125 := n4_; have HB := n5_; clear n0_ n1_ n2_ n3_ n4_ n5_; (try clear hb); (try clear hb2); (try clear hk); (try clear hi); (try clear ho0); obtain ⟨Ao32, co32, eo32⟩ := Kd.R_slice HO134.out; subst eo32) | ((with_reducible refine gate_builtin (b := .append) (xs := #[.tmp 45, .tmp 48]) rfl ?_); at_builtin; refine Kd.R_append_rows (Kd.int .u8) (w0 := w) w.heap.size rfl (.tmp 45) (.tmp 48) 22 5 (.int .u8 0) 1 rfl Try.underlying22 info5 rfl (by decide) (by omega) v130 y129 t132 _ _ _ (fun k_ => some k_ ≠ (.slice Ao28 y126.length co28 : Value).ownBlock ∧ some k_ ≠ (.slice Ao32 t132.length co32 : Value).ownBlock) (fun _ => False) rfl rfl ?aO ?aR (fun _ _ h => h) (fun _ h => h.elim) ?aF ?aB ?aS ?aL ?_; (case aR => repeat (first | exact (Kd.R_reads' HO134.out).2.2 | (with_reducible refine Kd.C_alloc ?_ _) | (with_reducible refine Kd.C_drewN ?_ _) | (with_reducible refine Kd.C_drew ?_))); (case aB => exact (by repeat (first | (with_reducible first | exact HB.out | apply below_alloc | apply pw_below_drewN | apply below_drew1 | refine below_set ?_ GE119.out | refine below_set ?_ GE125.out) | exact HB.out))); (case aF => exact (fun k_ hk => ⟨Kd.fresh' (Kd.R_lt (by (with_reducible repeat (first | apply Kd.R_alloc | apply Kd.R_drewN | apply Kd.R_drew)); exact HO128.out)) k_ hk, Kd.fresh' (Kd.R_lt (by (with_reducible repeat (first | apply Kd.R_alloc | apply Kd.R_drewN | apply Kd.R_drew)); exact HO134.out)) k_ hk⟩)); (case aO => exact (by (with_reducible repeat (first | apply Kd.R_alloc | apply Kd.R_drewN | apply Kd.R_drew)); exact HO131.out)); (case aS => exact (below_size (by repeat (first | (with_reducible first | exact HB.out | apply below_alloc | apply pw_below_drewN | apply below_drew1 | refine below_set ?_ GE119.out | refine below_set ?_ GE125.out) | exact HB.out)))); (case aL => have := LMc22.out; omega); intro v136 w31 ho hb hg hat; rw [← Ny135.out] at ho; have n0_ := Aside0.mk (blk_grown (g := gb119) (o := .cells #[.int .u8 a1_0, .int .u8 a1_1, .int .u16 a1_2, .int .u16 a1_3, .int .u16 a1_4, .int .u16 a1_5, .int .u16 a1_6, .int .u16 a1_7, .int .u16 a1_8, .int .u16 a1_9, .int .u16 a1_10, .int .u16 a1_11, .slice A1_12 l1_12.length c1_12, .slice A1_13 l1_13.length c1_13, .slice A1_14 l1_14.length c1_14, .slice (some ad124) l1_15.length c1_15, .int .u8 a1_16, .int .u8 a1_17, .int .u8 a1_18, .int .u8 a1_19, .int .u8 a1_20, .slice A1_21 l1_21.length c1_21] 30 (0, 0)) (by (with_reducible repeat (first | refine blk_drewN ?_ _ | refine blk_drew ?_ | refine blk_alloc ?_ _)); exact BK119.out) hg (Kd.R_ne HO131.out BK119.out (by decide))); have n1_ := Aside0.mk (blk_grown (g := gb125) (o := .cells #[.int .u16 ((rd_T43 l1_15 x12_1).f0), .int .u16 ((rd_T43 l1_15 x12_1).f1), .int .u16 ((rd_T43 l1_15 x12_1).f2), .slice A124_3 ((rd_T43 l1_15 x12_1).f3).length c124_3] 43 (0, 0)) (by (with_reducible repeat (first | refine blk_drewN ?_ _ | refine blk_drew ?_ | refine blk_alloc ?_ _)); exact BK125.out) hg (Kd.R_ne HO131.out BK125.out (by decide))); have n2_ := Aside0.mk (Kd.R_after (ok := (fun k_ => some k_ ≠ (.slice Ao32 t132.length co32 : Value).ownBlock)) (by (with_reducible repeat (first | apply Kd.R_alloc | apply Kd.R_drewN | apply Kd.R_drew)); exact Kd.R_mono HO128.out (fun _ hk => ⟨hk.2, hk.1.2⟩)) hg hat); have n3_ := Aside0.mk (Kd.R_after (ok := (fun k_ => some k_ ≠ (.slice Ao28 y126.length co28 : Value).ownBlock)) (by (with_reducible repeat (first | apply Kd.R_alloc | apply Kd.R_drewN | apply Kd.R_drew)); exact Kd.R_mono HO134.out (fun _ hk => ⟨hk.1.2, hk.2⟩)) hg hat); have n4_ := Aside0.mk (hb); have n5_ := Aside0.mk (ho); clear BK119; clear BK125; clear HO128; clear HO134; clear HB; clear HO131; have BK119 := n0_; have BK125 := n1_; have HO128 := n2_; have HO134 := n3_; have HB := n4_; have HO137 := n5_; clear n0_ n1_ n2_ n3_ n4_ n5_; clear ho hb hg hat))
                      go_roundg kj9
                      case measure => have := HK1.out; have := HJ9.out; omega
                      case rel => exact ⟨(y135), (wrap64 (x12_1 + 1)), (by first | rfl | (simp; done) | (simp [*]; done)), H', ⟨by have := HK1.out; have := HJ9.out; omega⟩, ⟨by (with_reducible repeat (first | apply Kd.R_alloc | apply Kd.R_drewN | apply Kd.R_drew)); exact Kd.R_mono HO137.out (fun _ hk => trivial)⟩, ⟨by (with_reducible repeat (first | refine blk_drewN ?_ _ | refine blk_drew ?_ | refine blk_alloc ?_ _)); exact BK119.out⟩, ⟨by repeat (first | (with_reducible first | exact HB.out | apply below_alloc | apply pw_below_drewN | apply below_drew1 | refine below_set ?_ GE119.out | refine below_set ?_ GE125.out) | exact HB.out)⟩⟩
                    · rw [if_neg c22] at H
                      exact absurd H (by simp)
                  · rw [if_neg c20] at H
                    exact absurd H (by simp)
                · replace c19 := Bool.eq_false_iff.mpr c19
                  subst c19
                  have H1 : ((some (([6] : List Int) : List Int)).bind fun y138 => (if x5_1.length + y138.length < 140737488355328 then ((some (x5_1 ++ y138 : List Int)).bind fun y141 => ((word_Put.f kj9 (([((rd_T43 l1_15 x12_1).f0), ((rd_T43 l1_15 x12_1).f1), ((rd_T43 l1_15 x12_1).f2)] : List Int))).bind fun t147 => (if y141.length + t147.length < 140737488355328 then ((some (y141 ++ t147 : List Int)).bind fun y150 => ((word_Put.f kj9 ((rd_T43 l1_15 x12_1).f3)).bind fun t153 => (if y150.length + t153.length < 140737488355328 then (files_lay.l0 kj9 a0 (y150 ++ t153) l1_15 (l1_15.length : Int) (wrap64 (x12_1 + 1)) a1_0 a1_1 a1_2 a1_3 a1_4 a1_5 a1_6 a1_7 a1_8 a1_9 a1_10 a1_11 l1_12 l1_13 l1_14 l1_15 a1_16 a1_17 a1_18 a1_19 a1_20 l1_21) else (none)))) else (none)))) else (none))) = some r := by rw [if_neg (show ¬ (false = true) by decide)] at H; exact H
                  clear H
                  have H := H1
                  clear H1
                  obtain ⟨y138, hy138⟩ : ∃ y_ : List Int, y_ = (([6] : List Int)) := ⟨_, rfl⟩
                  replace H : (if x5_1.length + y138.length < 140737488355328 then ((some (x5_1 ++ y138 : List Int)).bind fun y141 => ((word_Put.f kj9 (([((rd_T43 l1_15 x12_1).f0), ((rd_T43 l1_15 x12_1).f1), ((rd_T43 l1_15 x12_1).f2)] : List Int))).bind fun t147 => (if y141.length + t147.length < 140737488355328 then ((some (y141 ++ t147 : List Int)).bind fun y150 => ((word_Put.f kj9 ((rd_T43 l1_15 x12_1).f3)).bind fun t153 => (if y150.length + t153.length < 140737488355328 then (files_lay.l0 kj9 a0 (y150 ++ t153) l1_15 (l1_15.length : Int) (wrap64 (x12_1 + 1)) a1_0 a1_1 a1_2 a1_3 a1_4 a1_5 a1_6 a1_7 a1_8 a1_9 a1_10 a1_11 l1_12 l1_13 l1_14 l1_15 a1_16 a1_17 a1_18 a1_19 a1_20 l1_21) else (none)))) else (none)))) else (none)) = some r := by first | (rw [hy138]; with_reducible exact H) | (have H2_ := (Option.bind_some _ _).symm.trans H; rw [hy138]; with_reducible exact H2_) | (have H2_ := (Option.bind_some _ _).symm.trans H; with_reducible exact H2_) | with_reducible exact H | (rw [hy138]; exact H) | exact H
                  have Ny138 := Aside0.mk hy138
                  clear hy138
                  by_cases c33 : x5_1.length + y138.length < 140737488355328
                  · rw [if_pos c33] at H
                    have LMc33 := Aside0.mk c33
                    clear c33
                    obtain ⟨y141, hy141⟩ : ∃ y_ : List Int, y_ = (x5_1 ++ y138) := ⟨_, rfl⟩
                    replace H : ((word_Put.f kj9 (([((rd_T43 l1_15 x12_1).f0), ((rd_T43 l1_15 x12_1).f1), ((rd_T43 l1_15 x12_1).f2)] : List Int))).bind fun t147 => (if y141.length + t147.length < 140737488355328 then ((some (y141 ++ t147 : List Int)).bind fun y150 => ((word_Put.f kj9 ((rd_T43 l1_15 x12_1).f3)).bind fun t153 => (if y150.length + t153.length < 140737488355328 then (files_lay.l0 kj9 a0 (y150 ++ t153) l1_15 (l1_15.length : Int) (wrap64 (x12_1 + 1)) a1_0 a1_1 a1_2 a1_3 a1_4 a1_5 a1_6 a1_7 a1_8 a1_9 a1_10 a1_11 l1_12 l1_13 l1_14 l1_15 a1_16 a1_17 a1_18 a1_19 a1_20 l1_21) else (none)))) else (none))) = some r := by first | (rw [hy141]; with_reducible exact H) | (have H2_ := (Option.bind_some _ _).symm.trans H; rw [hy141]; with_reducible exact H2_) | (have H2_ := (Option.bind_some _ _).symm.trans H; with_reducible exact H2_) | with_reducible exact H | (rw [hy141]; exact H) | exact H
                    have Ny141 := Aside0.mk hy141
                    clear hy141
                    obtain ⟨y144, hy144⟩ : ∃ y_ : List Int, y_ = (([((rd_T43 l1_15 x12_1).f0), ((rd_T43 l1_15 x12_1).f1), ((rd_T43 l1_15 x12_1).f2)] : List Int)) := ⟨_, rfl⟩
                    replace H : ((word_Put.f kj9 y144).bind fun t147 => (if y141.length + t147.length < 140737488355328 then ((some (y141 ++ t147 : List Int)).bind fun y150 => ((word_Put.f kj9 ((rd_T43 l1_15 x12_1).f3)).bind fun t153 => (if y150.length + t153.length < 140737488355328 then (files_lay.l0 kj9 a0 (y150 ++ t153) l1_15 (l1_15.length : Int) (wrap64 (x12_1 + 1)) a1_0 a1_1 a1_2 a1_3 a1_4 a1_5 a1_6 a1_7 a1_8 a1_9 a1_10 a1_11 l1_12 l1_13 l1_14 l1_15 a1_16 a1_17 a1_18 a1_19 a1_20 l1_21) else (none)))) else (none))) = some r := by first | (rw [hy144]; with_reducible exact H) | (have H2_ := (Option.bind_some _ _).symm.trans H; rw [hy144]; with_reducible exact H2_) | (have H2_ := (Option.bind_some _ _).symm.trans H; with_reducible exact H2_) | with_reducible exact H | (rw [hy144]; exact H) | exact H
                    have Ny144 := Aside0.mk hy144
                    clear hy144
                    replace H := Option.bind_eq_some_iff.mp H
                    obtain ⟨t147, A340, H⟩ := H
                    replace H : (if y141.length + t147.length < 140737488355328 then ((some (y141 ++ t147 : List Int)).bind fun y150 => ((word_Put.f kj9 ((rd_T43 l1_15 x12_1).f3)).bind fun t153 => (if y150.length + t153.length < 140737488355328 then (files_lay.l0 kj9 a0 (y150 ++ t153) l1_15 (l1_15.length : Int) (wrap64 (x12_1 + 1)) a1_0 a1_1 a1_2 a1_3 a1_4 a1_5 a1_6 a1_7 a1_8 a1_9 a1_10 a1_11 l1_12 l1_13 l1_14 l1_15 a1_16 a1_17 a1_18 a1_19 a1_20 l1_21) else (none)))) else (none)) = some r := H
                    have A34 := Aside0.mk A340
                    clear A340
                    by_cases c35 : y141.length + t147.length < 140737488355328
                    · rw [if_pos c35] at H
                      have LMc35 := Aside0.mk c35
                      clear c35
                      obtain ⟨y150, hy150⟩ : ∃ y_ : List Int, y_ = (y141 ++ t147) := ⟨_, rfl⟩
                      replace H : ((word_Put.f kj9 ((rd_T43 l1_15 x12_1).f3)).bind fun t153 => (if y150.length + t153.length < 140737488355328 then (files_lay.l0 kj9 a0 (y150 ++ t153) l1_15 (l1_15.length : Int) (wrap64 (x12_1 + 1)) a1_0 a1_1 a1_2 a1_3 a1_4 a1_5 a1_6 a1_7 a1_8 a1_9 a1_10 a1_11 l1_12 l1_13 l1_14 l1_15 a1_16 a1_17 a1_18 a1_19 a1_20 l1_21) else (none))) = some r := by first | (rw [hy150]; with_reducible exact H) | (have H2_ := (Option.bind_some _ _).symm.trans H; rw [hy150]; with_reducible exact H2_) | (have H2_ := (Option.bind_some _ _).symm.trans H; with_reducible exact H2_) | with_reducible exact H | (rw [hy150]; exact H) | exact H
                      have Ny150 := Aside0.mk hy150
                      clear hy150
                      replace H := Option.bind_eq_some_iff.mp H
                      obtain ⟨t153, A360, H⟩ := H
                      replace H : (if y150.length + t153.length < 140737488355328 then (files_lay.l0 kj9 a0 (y150 ++ t153) l1_15 (l1_15.length : Int) (wrap64 (x12_1 + 1)) a1_0 a1_1 a1_2 a1_3 a1_4 a1_5 a1_6 a1_7 a1_8 a1_9 a1_10 a1_11 l1_12 l1_13 l1_14 l1_15 a1_16 a1_17 a1_18 a1_19 a1_20 l1_21) else (none)) = some r := H
                      have A36 := Aside0.mk A360
                      clear A360
                      by_cases c37 : y150.length + t153.length < 140737488355328
                      · rw [if_pos c37] at H
                        have LMc37 := Aside0.mk c37
                        clear c37
                        obtain ⟨y156, hy156⟩ : ∃ y_ : List Int, y_ = (y150 ++ t153) := ⟨_, rfl⟩
                        replace H : (files_lay.l0 kj9 a0 y156 l1_15 (l1_15.length : Int) (wrap64 (x12_1 + 1)) a1_0 a1_1 a1_2 a1_3 a1_4 a1_5 a1_6 a1_7 a1_8 a1_9 a1_10 a1_11 l1_12 l1_13 l1_14 l1_15 a1_16 a1_17 a1_18 a1_19 a1_20 l1_21) = some r := by first | (rw [hy156]; with_reducible exact H) | (have H2_ := (Option.bind_some _ _).symm.trans H; rw [hy156]; with_reducible exact H2_) | (have H2_ := (Option.bind_some _ _).symm.trans H; with_reducible exact H2_) | with_reducible exact H | (rw [hy156]; exact H) | exact H
                        have Ny156 := Aside0.mk hy156
                        clear hy156
                        have H' := Aside0.mk H
                        clear H
                        obtain ⟨Ao38, co38, eo38⟩ := Kd.R_slice HO_5.out
                        subst eo38
                        try go_wp2
                        have n0_ := Aside0.mk (Kd.R_drew HO_5.out)
                        have n1_ := Aside0.mk (blk_drew BK119.out)
                        have n2_ := Aside0.mk (blk_drew BK125.out)
                        have n3_ := Aside0.mk (below_drew1 HB.out)
                        clear HO_5
                        clear BK119
                        clear BK125
                        clear HB
                        have HO_5 := n0_
                        have BK119 := n1_
                        have BK125 := n2_
                        have HB := n3_
                        clear n0_ n1_ n2_ n3_
                        refine start_ (n := 13) (S := fun w' => w'.cell? ⟨gb125, 0, none⟩ = some (.int .u16 ((rd_T43 l1_15 x12_1).f0)) ∧ w'.cell? ⟨gb125, 1, none⟩ = some (.int .u16 ((rd_T43 l1_15 x12_1).f1)) ∧ w'.cell? ⟨gb125, 2, none⟩ = some (.int .u16 ((rd_T43 l1_15 x12_1).f2)) ∧ w'.cell? ⟨gb125, 3, none⟩ = some (.slice A124_3 ((rd_T43 l1_15 x12_1).f3).length c124_3)) (ds := []) #[false, false, false, false, false, false, false, false, false, false, false, false, false] (by kernel_rfl) rfl rfl ⟨(blk_cell BK125.out 0).trans rfl, (blk_cell BK125.out 1).trans rfl, (blk_cell BK125.out 2).trans rfl, (blk_cell BK125.out 3).trans rfl⟩ (fun hHeld => ?_); refine with_tabW files_lay.tab5 files_lay.bits5 (fun HT_ HW_ => ?_)
                        generalize wc.drew = w39 at HO_5 BK119 BK125 HB hHeld ⊢
                        refine pure_ (i := 0) (N := some 16) (v := ?_) (a' := ?_) #[true, false, false, false, false, false, false, false, false, false, false, false, false] rfl rfl (any_of HT_.out (by kernel_rfl)) (fun _ _ _ h => h) (Or.inl ⟨by rfl, ?_⟩) ?_ ?_
                        rotate_left
                        · intro w'
                          go_simp
                          with_reducible rfl
                        rotate_left
                        · simp only [Act.put, List.setIfInBounds_toArray, List.set_cons_zero, List.set_cons_succ, i64_w, i32_w]
                          rfl
                        refine pure_ (i := 3) (N := some 19) (v := ?_) (a' := ?_) #[true, false, false, true, false, false, false, false, false, false, false, false, false] rfl rfl (any_of HT_.out (by kernel_rfl)) (fun _ _ _ h => h) (Or.inl ⟨by rfl, ?_⟩) ?_ ?_
                        rotate_left
                        · intro w'
                          go_simp
                          with_reducible rfl
                        rotate_left
                        · simp only [Act.put, List.setIfInBounds_toArray, List.set_cons_zero, List.set_cons_succ, i64_w, i32_w]
                          rfl
                        refine pure_ (i := 5) (N := some 21) (v := ?_) (a' := ?_) #[true, false, false, true, false, true, false, false, false, false, false, false, false] rfl rfl (any_of HT_.out (by kernel_rfl)) (fun _ _ _ h => h) (Or.inl ⟨by rfl, ?_⟩) ?_ ?_
                        rotate_left
                        · intro w'
                          go_simp
                          with_reducible rfl
                        rotate_left
                        · simp only [Act.put, List.setIfInBounds_toArray, List.set_cons_zero, List.set_cons_succ, i64_w, i32_w]
                          rfl
                        refine pure_ (i := 7) (N := some 23) (v := ?_) (a' := ?_) #[true, false, false, true, false, true, false, true, false, false, false, false, false] rfl rfl (any_of HT_.out (by kernel_rfl)) (fun _ _ _ h => h) (Or.inl ⟨by rfl, ?_⟩) ?_ ?_
                        rotate_left
                        · intro w'
                          go_simp
                          with_reducible rfl
                        rotate_left
                        · simp only [Act.put, List.setIfInBounds_toArray, List.set_cons_zero, List.set_cons_succ, i64_w, i32_w]
                          rfl
                        refine take_ (i := 4) (N := some 20) (v := ?_) (a' := ?_) #[true, false, false, true, true, true, false, true, false, false, false, false, false] rfl rfl (take_ofW HT_.out HW_.out (by kernel_rfl)) (fun _ _ _ h => h) (Or.inl ⟨by rfl, ?_⟩) hHeld ?_ ?_
                        rotate_left
                        · rintro w' ⟨s0, s1, s2, s3⟩
                          go_simp
                          with_reducible rfl
                        rotate_left
                        · simp only [Act.put, List.setIfInBounds_toArray, List.set_cons_zero, List.set_cons_succ, i64_w, i32_w]
                          rfl
                        refine take_ (i := 6) (N := some 22) (v := ?_) (a' := ?_) #[true, false, false, true, true, true, true, true, false, false, false, false, false] rfl rfl (take_ofW HT_.out HW_.out (by kernel_rfl)) (fun _ _ _ h => h) (Or.inl ⟨by rfl, ?_⟩) hHeld ?_ ?_
                        rotate_left
                        · rintro w' ⟨s0, s1, s2, s3⟩
                          go_simp
                          with_reducible rfl
                        rotate_left
                        · simp only [Act.put, List.setIfInBounds_toArray, List.set_cons_zero, List.set_cons_succ, i64_w, i32_w]
                          rfl
                        refine take_ (i := 8) (N := some 24) (v := ?_) (a' := ?_) #[true, false, false, true, true, true, true, true, true, false, false, false, false] rfl rfl (take_ofW HT_.out HW_.out (by kernel_rfl)) (fun _ _ _ h => h) (Or.inl ⟨by rfl, ?_⟩) hHeld ?_ ?_
                        rotate_left
                        · rintro w' ⟨s0, s1, s2, s3⟩
                          go_simp
                          with_reducible rfl
                        rotate_left
                        · simp only [Act.put, List.setIfInBounds_toArray, List.set_cons_zero, List.set_cons_succ, i64_w, i32_w]
                          rfl
                        refine join_ (σ := Value × Value × Value) 3 #[true, true, true, true, true, true, true, true, true, true, false, false, false] (fun s_ => [(17, s_.1), (18, s_.2.1), (25, s_.2.2)]) (fun s_ w' => (w'.cell? ⟨gb125, 0, none⟩ = some (.int .u16 ((rd_T43 l1_15 x12_1).f0)) ∧ w'.cell? ⟨gb125, 1, none⟩ = some (.int .u16 ((rd_T43 l1_15 x12_1).f1)) ∧ w'.cell? ⟨gb125, 2, none⟩ = some (.int .u16 ((rd_T43 l1_15 x12_1).f2)) ∧ w'.cell? ⟨gb125, 3, none⟩ = some (.slice A124_3 ((rd_T43 l1_15 x12_1).f3).length c124_3)) ∧ (Kd.R (Kd.int .u8) 5 w' w.heap.size (fun k_ => some k_ ≠ (s_.2.1 : Value).ownBlock) s_.1 y138) ∧ (Kd.R (Kd.int .u8) 5 w' w.heap.size (fun k_ => some k_ ≠ (s_.1 : Value).ownBlock) s_.2.1 y141) ∧ (Kd.R (Kd.int .u16) 24 w' w.heap.size (fun _ => True) s_.2.2 y144) ∧ (w'.heap[gb119]? = some (.cells #[.int .u8 a1_0, .int .u8 a1_1, .int .u16 a1_2, .int .u16 a1_3, .int .u16 a1_4, .int .u16 a1_5, .int .u16 a1_6, .int .u16 a1_7, .int .u16 a1_8, .int .u16 a1_9, .int .u16 a1_10, .int .u16 a1_11, .slice A1_12 l1_12.length c1_12, .slice A1_13 l1_13.length c1_13, .slice A1_14 l1_14.length c1_14, .slice (some ad124) l1_15.length c1_15, .int .u8 a1_16, .int .u8 a1_17, .int .u8 a1_18, .int .u8 a1_19, .int .u8 a1_20, .slice A1_21 l1_21.length c1_21] 30 (0, 0))) ∧ (w'.heap[gb125]? = some (.cells #[.int .u16 ((rd_T43 l1_15 x12_1).f0), .int .u16 ((rd_T43 l1_15 x12_1).f1), .int .u16 ((rd_T43 l1_15 x12_1).f2), .slice A124_3 ((rd_T43 l1_15 x12_1).f3).length c124_3] 43 (0, 0))) ∧ (Below w.heap.size w w')) ?_ ?_
                        rotate_left
                        · intro hCont
                          refine two_ (i := 1) (j := 9) (Ni := some 17) (Nj := some 25) #[true, true, false, true, true, true, true, true, true, false, false, false, false] #[true, false, false, true, true, true, true, true, true, true, false, false, false] rfl rfl rfl rfl (two_of HT_.out (by kernel_rfl)) (by decide) (by decide) (fun K hK => ?_) (fun K hK => ?_)
                          · skip
                            refine Kd.R_lit_step (Kd.int .u8) _ 5 ?hg (N := 17) ?hd (xs := ([6] : List Int)) (inner := [.int .u8 6]) (ok := fun _ => True) (okp := fun _ => True) ?hr ?hp (fun _ hk => hk) trivial (Below.refl _ _) (Nat.le_refl _) (by simp) ?_; (case hd => rfl); (case hg => rfl); (case hr => first | (go_simp; done) | (go_simp; rfl)); (case hp => exact (Reps.one (show Kd.M (Kd.int .u8) _ _ _ 6 [.int .u8 6] from rfl) (Reps.none _ _)))
                            intro v139 w40 ho41 hb hg_ hnew_
                            clear hg_ hnew_
                            (first | rw [← Ny138.out] at ho41 | (simp only [Int.reduceToNat] at ho41; rw [← Ny138.out] at ho41))
                            have n0_ := Aside0.mk (Kd.R_elder' (by (with_reducible repeat (first | apply Kd.R_alloc | apply Kd.R_drewN | apply Kd.R_drew)); exact HO_5.out) (Kd.R_base ho41) hb)
                            have n1_ := Aside0.mk (Kd.R_lower (Kd.R_new' ho41 (Kd.R_lt (by (with_reducible repeat (first | apply Kd.R_alloc | apply Kd.R_drewN | apply Kd.R_drew)); exact HO_5.out))) (below_size (by repeat (first | (with_reducible first | exact HB.out | apply below_alloc | apply pw_below_drewN | apply below_drew1 | refine below_set ?_ GE119.out | refine below_set ?_ GE125.out) | exact HB.out))))
                            have n2_ := Aside0.mk (blk_below (g := gb119) (o := .cells #[.int .u8 a1_0, .int .u8 a1_1, .int .u16 a1_2, .int .u16 a1_3, .int .u16 a1_4, .int .u16 a1_5, .int .u16 a1_6, .int .u16 a1_7, .int .u16 a1_8, .int .u16 a1_9, .int .u16 a1_10, .int .u16 a1_11, .slice A1_12 l1_12.length c1_12, .slice A1_13 l1_13.length c1_13, .slice A1_14 l1_14.length c1_14, .slice (some ad124) l1_15.length c1_15, .int .u8 a1_16, .int .u8 a1_17, .int .u8 a1_18, .int .u8 a1_19, .int .u8 a1_20, .slice A1_21 l1_21.length c1_21] 30 (0, 0)) (by (with_reducible repeat (first | refine blk_drewN ?_ _ | refine blk_drew ?_ | refine blk_alloc ?_ _)); exact BK119.out) hb)
                            have n3_ := Aside0.mk (blk_below (g := gb125) (o := .cells #[.int .u16 ((rd_T43 l1_15 x12_1).f0), .int .u16 ((rd_T43 l1_15 x12_1).f1), .int .u16 ((rd_T43 l1_15 x12_1).f2), .slice A124_3 ((rd_T43 l1_15 x12_1).f3).length c124_3] 43 (0, 0)) (by (with_reducible repeat (first | refine blk_drewN ?_ _ | refine blk_drew ?_ | refine blk_alloc ?_ _)); exact BK125.out) hb)
                            have n4_ := Aside0.mk (below_step (by repeat (first | (with_reducible first | exact HB.out | apply below_alloc | apply pw_below_drewN | apply below_drew1 | refine below_set ?_ GE119.out | refine below_set ?_ GE125.out) | exact HB.out)) hb)
                            clear HO_5
                            clear BK119
                            clear BK125
                            clear HB
                            have HO_5 := n0_
                            have HO140 := n1_
                            have BK119 := n2_
                            have BK125 := n3_
                            have HB := n4_
                            clear n0_ n1_ n2_ n3_ n4_
                            clear hb ho41
                            obtain ⟨Ao43, co43, eo43⟩ := Kd.R_slice HO140.out
                            (first | subst eo43 | (injection eo43 with f1_ f2_ f3_; have f4_ := f1_.symm; have f5_ := f3_.symm; clear f1_ f2_ f3_; subst f4_; subst f5_))
                            refine hK.out _ _ ⟨(blk_cell BK125.out 0).trans rfl, (blk_cell BK125.out 1).trans rfl, (blk_cell BK125.out 2).trans rfl, (blk_cell BK125.out 3).trans rfl⟩ (fun hHeld => ?_)
                            clear hK K
                            refine norm_ (a' := ?_) ?_ ?_
                            rotate_left
                            · show Act.put _ (some 17) _ = _
                              simp only [Act.put, List.setIfInBounds_toArray, List.set_cons_zero, List.set_cons_succ, i64_w, i32_w]
                              rfl
                            refine two_ (i := 2) (j := 9) (Ni := some 18) (Nj := some 25) #[true, true, true, true, true, true, true, true, true, false, false, false, false] #[true, true, false, true, true, true, true, true, true, true, false, false, false] rfl rfl rfl rfl (two_of HT_.out (by kernel_rfl)) (by decide) (by decide) (fun K hK => ?_) (fun K hK => ?_)
                            · skip
                              refine Kd.R_append_rows_step (Kd.int .u8) (w0 := w) w.heap.size (by rfl) (.tmp 16) (.tmp 17) 22 5 (.int .u8 0) 1 rfl Try.underlying22 info5 rfl (by decide) (by omega) (.slice Ao38 x5_1.length co38) x5_1 y138 _ _ _ (fun k_ => some k_ ≠ (.slice Ao43 y138.length co43 : Value).ownBlock) (fun _ => False) rfl rfl ?aO ?aR (fun _ _ h => h) (fun _ h => h.elim) ?aF ?aB ?aS ?aL ?_
                              (case aR => repeat (first | exact (Kd.R_reads' HO140.out).2.2 | (with_reducible refine Kd.C_alloc ?_ _) | (with_reducible refine Kd.C_drewN ?_ _) | (with_reducible refine Kd.C_drew ?_)))
                              (case aB => exact (by repeat (first | (with_reducible first | exact HB.out | apply below_alloc | apply pw_below_drewN | apply below_drew1 | refine below_set ?_ GE119.out | refine below_set ?_ GE125.out) | exact HB.out)))
                              (case aF => exact (fun k_ hk => Kd.fresh' (Kd.R_lt (by (with_reducible repeat (first | apply Kd.R_alloc | apply Kd.R_drewN | apply Kd.R_drew)); exact HO140.out)) k_ hk))
                              (case aO => exact (by (with_reducible repeat (first | apply Kd.R_alloc | apply Kd.R_drewN | apply Kd.R_drew)); exact Kd.R_mono HO_5.out (fun _ hk => hk.2)))
                              (case aS => exact (below_size (by repeat (first | (with_reducible first | exact HB.out | apply below_alloc | apply pw_below_drewN | apply below_drew1 | refine below_set ?_ GE119.out | refine below_set ?_ GE125.out) | exact HB.out))))
                              (case aL => have := LMc33.out; omega)
                              intro v142 w42 ho hb hg hat
                              rw [← Ny141.out] at ho
                              have n0_ := Aside0.mk (blk_grown (g := gb119) (o := .cells #[.int .u8 a1_0, .int .u8 a1_1, .int .u16 a1_2, .int .u16 a1_3, .int .u16 a1_4, .int .u16 a1_5, .int .u16 a1_6, .int .u16 a1_7, .int .u16 a1_8, .int .u16 a1_9, .int .u16 a1_10, .int .u16 a1_11, .slice A1_12 l1_12.length c1_12, .slice A1_13 l1_13.length c1_13, .slice A1_14 l1_14.length c1_14, .slice (some ad124) l1_15.length c1_15, .int .u8 a1_16, .int .u8 a1_17, .int .u8 a1_18, .int .u8 a1_19, .int .u8 a1_20, .slice A1_21 l1_21.length c1_21] 30 (0, 0)) (by (with_reducible repeat (first | refine blk_drewN ?_ _ | refine blk_drew ?_ | refine blk_alloc ?_ _)); exact BK119.out) hg (Kd.R_ne HO_5.out BK119.out (by decide)))
                              have n1_ := Aside0.mk (blk_grown (g := gb125) (o := .cells #[.int .u16 ((rd_T43 l1_15 x12_1).f0), .int .u16 ((rd_T43 l1_15 x12_1).f1), .int .u16 ((rd_T43 l1_15 x12_1).f2), .slice A124_3 ((rd_T43 l1_15 x12_1).f3).length c124_3] 43 (0, 0)) (by (with_reducible repeat (first | refine blk_drewN ?_ _ | refine blk_drew ?_ | refine blk_alloc ?_ _)); exact BK125.out) hg (Kd.R_ne HO_5.out BK125.out (by decide)))
                              have n2_ := Aside0.mk (Kd.R_after (ok := (fun _ => True)) (by (with_reducible repeat (first | apply Kd.R_alloc | apply Kd.R_drewN | apply Kd.R_drew)); exact HO140.out) hg hat)
                              have n3_ := Aside0.mk (hb)
                              have n4_ := Aside0.mk (ho)
                              clear BK119
                              clear BK125
                              clear HO140
                              clear HB
                              clear HO_5
                              have BK119 := n0_
                              have BK125 := n1_
                              have HO140 := n2_
                              have HB := n3_
                              have HO143 := n4_
                              clear n0_ n1_ n2_ n3_ n4_
                              clear ho hb hg hat
                              refine hK.out _ _ ⟨(blk_cell BK125.out 0).trans rfl, (blk_cell BK125.out 1).trans rfl, (blk_cell BK125.out 2).trans rfl, (blk_cell BK125.out 3).trans rfl⟩ (fun hHeld => ?_)
                              clear hK K
                              refine norm_ (a' := ?_) ?_ ?_
                              rotate_left
                              · show Act.put _ (some 18) _ = _
                                simp only [Act.put, List.setIfInBounds_toArray, List.set_cons_zero, List.set_cons_succ, i64_w, i32_w]
                                rfl
                              refine one_ (i := 9) (N := some 25) #[true, true, true, true, true, true, true, true, true, true, false, false, false] rfl rfl (one_of HT_.out (by kernel_rfl)) (by decide) (fun K hK => ?_)
                              refine Kd.R_lit_step (Kd.int .u16) _ 24 ?hg (N := 25) ?hd (xs := ([((rd_T43 l1_15 x12_1).f0), ((rd_T43 l1_15 x12_1).f1), ((rd_T43 l1_15 x12_1).f2)] : List Int)) (inner := [.int .u16 ((rd_T43 l1_15 x12_1).f0), .int .u16 ((rd_T43 l1_15 x12_1).f1), .int .u16 ((rd_T43 l1_15 x12_1).f2)]) (ok := fun _ => True) (okp := fun _ => True) ?hr ?hp (fun _ hk => hk) trivial (Below.refl _ _) (Nat.le_refl _) (by simp) ?_; (case hd => rfl); (case hg => rfl); (case hr => first | (go_simp; done) | (go_simp; rfl)); (case hp => exact (Reps.one (show Kd.M (Kd.int .u16) _ _ _ ((rd_T43 l1_15 x12_1).f0) [.int .u16 ((rd_T43 l1_15 x12_1).f0)] from rfl) (Reps.one (show Kd.M (Kd.int .u16) _ _ _ ((rd_T43 l1_15 x12_1).f1) [.int .u16 ((rd_T43 l1_15 x12_1).f1)] from rfl) (Reps.one (show Kd.M (Kd.int .u16) _ _ _ ((rd_T43 l1_15 x12_1).f2) [.int .u16 ((rd_T43 l1_15 x12_1).f2)] from rfl) (Reps.none _ _)))))
                              intro v145 w44 ho45 hb hg_ hnew_
                              clear hg_ hnew_
                              (first | rw [← Ny144.out] at ho45 | (simp only [Int.reduceToNat] at ho45; rw [← Ny144.out] at ho45))
                              have n0_ := Aside0.mk (Kd.R_below (by (with_reducible repeat (first | apply Kd.R_alloc | apply Kd.R_drewN | apply Kd.R_drew)); exact HO140.out) hb)
                              have n1_ := Aside0.mk (Kd.R_below (by (with_reducible repeat (first | apply Kd.R_alloc | apply Kd.R_drewN | apply Kd.R_drew)); exact HO143.out) hb)
                              have n2_ := Aside0.mk (Kd.R_lower ho45 (below_size (by repeat (first | (with_reducible first | exact HB.out | apply below_alloc | apply pw_below_drewN | apply below_drew1 | refine below_set ?_ GE119.out | refine below_set ?_ GE125.out) | exact HB.out))))
                              have n3_ := Aside0.mk (blk_below (g := gb119) (o := .cells #[.int .u8 a1_0, .int .u8 a1_1, .int .u16 a1_2, .int .u16 a1_3, .int .u16 a1_4, .int .u16 a1_5, .int .u16 a1_6, .int .u16 a1_7, .int .u16 a1_8, .int .u16 a1_9, .int .u16 a1_10, .int .u16 a1_11, .slice A1_12 l1_12.length c1_12, .slice A1_13 l1_13.length c1_13, .slice A1_14 l1_14.length c1_14, .slice (some ad124) l1_15.length c1_15, .int .u8 a1_16, .int .u8 a1_17, .int .u8 a1_18, .int .u8 a1_19, .int .u8 a1_20, .slice A1_21 l1_21.length c1_21] 30 (0, 0)) (by (with_reducible repeat (first | refine blk_drewN ?_ _ | refine blk_drew ?_ | refine blk_alloc ?_ _)); exact BK119.out) hb)
                              have n4_ := Aside0.mk (blk_below (g := gb125) (o := .cells #[.int .u16 ((rd_T43 l1_15 x12_1).f0), .int .u16 ((rd_T43 l1_15 x12_1).f1), .int .u16 ((rd_T43 l1_15 x12_1).f2), .slice A124_3 ((rd_T43 l1_15 x12_1).f3).length c124_3] 43 (0, 0)) (by (with_reducible repeat (first | refine blk_drewN ?_ _ | refine blk_drew ?_ | refine blk_alloc ?_ _)); exact BK125.out) hb)
                              have n5_ := Aside0.mk (below_step (by repeat (first | (with_reducible first | exact HB.out | apply below_alloc | apply pw_below_drewN | apply below_drew1 | refine below_set ?_ GE119.out | refine below_set ?_ GE125.out) | exact HB.out)) hb)
                              clear HO140
                              clear HO143
                              clear BK119
                              clear BK125
                              clear HB
                              have HO140 := n0_
                              have HO143 := n1_
                              have HO146 := n2_
                              have BK119 := n3_
                              have BK125 := n4_
                              have HB := n5_
                              clear n0_ n1_ n2_ n3_ n4_ n5_
                              clear hb ho45
                              refine hK.out _ _ ⟨(blk_cell BK125.out 0).trans rfl, (blk_cell BK125.out 1).trans rfl, (blk_cell BK125.out 2).trans rfl, (blk_cell BK125.out 3).trans rfl⟩ (fun hHeld => ?_)
                              clear hK K
                              refine norm_ (a' := ?_) ?_ ?_
                              rotate_left
                              · show Act.put _ (some 25) _ = _
                                simp only [Act.put, List.setIfInBounds_toArray, List.set_cons_zero, List.set_cons_succ, i64_w, i32_w]
                                rfl
                              exact norm_ (by simp only [putAll, Act.put, List.setIfInBounds_toArray, List.set_cons_zero, List.set_cons_succ]) (hCont (.slice Ao43 y138.length co43, v142, v145) _ ⟨hHeld, (by (with_reducible repeat (first | apply Kd.R_alloc | apply Kd.R_drewN | apply Kd.R_drew)); exact Kd.R_mono HO140.out (fun _ hk => hk.2)), (by (with_reducible repeat (first | apply Kd.R_alloc | apply Kd.R_drewN | apply Kd.R_drew)); exact HO143.out), (by (with_reducible repeat (first | apply Kd.R_alloc | apply Kd.R_drewN | apply Kd.R_drew)); exact HO146.out), (by (with_reducible repeat (first | refine blk_drewN ?_ _ | refine blk_drew ?_ | refine blk_alloc ?_ _)); exact BK119.out), (by (with_reducible repeat (first | refine blk_drewN ?_ _ | refine blk_drew ?_ | refine blk_alloc ?_ _)); exact BK125.out), (by repeat (first | (with_reducible first | exact HB.out | apply below_alloc | apply pw_below_drewN | apply below_drew1 | refine below_set ?_ GE119.out | refine below_set ?_ GE125.out) | exact HB.out))⟩)
                            · skip
                              refine Kd.R_lit_step (Kd.int .u16) _ 24 ?hg (N := 25) ?hd (xs := ([((rd_T43 l1_15 x12_1).f0), ((rd_T43 l1_15 x12_1).f1), ((rd_T43 l1_15 x12_1).f2)] : List Int)) (inner := [.int .u16 ((rd_T43 l1_15 x12_1).f0), .int .u16 ((rd_T43 l1_15 x12_1).f1), .int .u16 ((rd_T43 l1_15 x12_1).f2)]) (ok := fun _ => True) (okp := fun _ => True) ?hr ?hp (fun _ hk => hk) trivial (Below.refl _ _) (Nat.le_refl _) (by simp) ?_; (case hd => rfl); (case hg => rfl); (case hr => first | (go_simp; done) | (go_simp; rfl)); (case hp => exact (Reps.one (show Kd.M (Kd.int .u16) _ _ _ ((rd_T43 l1_15 x12_1).f0) [.int .u16 ((rd_T43 l1_15 x12_1).f0)] from rfl) (Reps.one (show Kd.M (Kd.int .u16) _ _ _ ((rd_T43 l1_15 x12_1).f1) [.int .u16 ((rd_T43 l1_15 x12_1).f1)] from rfl) (Reps.one (show Kd.M (Kd.int .u16) _ _ _ ((rd_T43 l1_15 x12_1).f2) [.int .u16 ((rd_T43 l1_15 x12_1).f2)] from rfl) (Reps.none _ _)))))
                              intro v145 w42 ho43 hb hg_ hnew_
                              clear hg_ hnew_
                              (first | rw [← Ny144.out] at ho43 | (simp only [Int.reduceToNat] at ho43; rw [← Ny144.out] at ho43))
                              have n0_ := Aside0.mk (Kd.R_below (by (with_reducible repeat (first | apply Kd.R_alloc | apply Kd.R_drewN | apply Kd.R_drew)); exact HO_5.out) hb)
                              have n1_ := Aside0.mk (Kd.R_below (by (with_reducible repeat (first | apply Kd.R_alloc | apply Kd.R_drewN | apply Kd.R_drew)); exact HO140.out) hb)
                              have n2_ := Aside0.mk (Kd.R_lower ho43 (below_size (by repeat (first | (with_reducible first | exact HB.out | apply below_alloc | apply pw_below_drewN | apply below_drew1 | refine below_set ?_ GE119.out | refine below_set ?_ GE125.out) | exact HB.out))))
                              have n3_ := Aside0.mk (blk_below (g := gb119) (o := .cells #[.int .u8 a1_0, .int .u8 a1_1, .int .u16 a1_2, .int .u16 a1_3, .int .u16 a1_4, .int .u16 a1_5, .int .u16 a1_6, .int .u16 a1_7, .int .u16 a1_8, .int .u16 a1_9, .int .u16 a1_10, .int .u16 a1_11, .slice A1_12 l1_12.length c1_12, .slice A1_13 l1_13.length c1_13, .slice A1_14 l1_14.length c1_14, .slice (some ad124) l1_15.length c1_15, .int .u8 a1_16, .int .u8 a1_17, .int .u8 a1_18, .int .u8 a1_19, .int .u8 a1_20, .slice A1_21 l1_21.length c1_21] 30 (0, 0)) (by (with_reducible repeat (first | refine blk_drewN ?_ _ | refine blk_drew ?_ | refine blk_alloc ?_ _)); exact BK119.out) hb)
                              have n4_ := Aside0.mk (blk_below (g := gb125) (o := .cells #[.int .u16 ((rd_T43 l1_15 x12_1).f0), .int .u16 ((rd_T43 l1_15 x12_1).f1), .int .u16 ((rd_T43 l1_15 x12_1).f2), .slice A124_3 ((rd_T43 l1_15 x12_1).f3).length c124_3] 43 (0, 0)) (by (with_reducible repeat (first | refine blk_drewN ?_ _ | refine blk_drew ?_ | refine blk_alloc ?_ _)); exact BK125.out) hb)
                              have n5_ := Aside0.mk (below_step (by repeat (first | (with_reducible first | exact HB.out | apply below_alloc | apply pw_below_drewN | apply below_drew1 | refine below_set ?_ GE119.out | refine below_set ?_ GE125.out) | exact HB.out)) hb)
                              clear HO_5
                              clear HO140
                              clear BK119
                              clear BK125
                              clear HB
                              have HO_5 := n0_
                              have HO140 := n1_
                              have HO146 := n2_
                              have BK119 := n3_
                              have BK125 := n4_
                              have HB := n5_
                              clear n0_ n1_ n2_ n3_ n4_ n5_
                              clear hb ho43
                              obtain ⟨Ao45, co45, eo45⟩ := Kd.R_slice HO140.out
                              (first | subst eo45 | (injection eo45 with f1_ f2_ f3_; have f4_ := f1_.symm; have f5_ := f3_.symm; clear f1_ f2_ f3_; subst f4_; subst f5_))
                              refine hK.out _ _ ⟨(blk_cell BK125.out 0).trans rfl, (blk_cell BK125.out 1).trans rfl, (blk_cell BK125.out 2).trans rfl, (blk_cell BK125.out 3).trans rfl⟩ (fun hHeld => ?_)
                              clear hK K
                              refine norm_ (a' := ?_) ?_ ?_
                              rotate_left
                              · show Act.put _ (some 25) _ = _
                                simp only [Act.put, List.setIfInBounds_toArray, List.set_cons_zero, List.set_cons_succ, i64_w, i32_w]
                                rfl
                              refine one_ (i := 2) (N := some 18) #[true, true, true, true, true, true, true, true, true, true, false, false, false] rfl rfl (one_of HT_.out (by kernel_rfl)) (by decide) (fun K hK => ?_)
                              refine Kd.R_append_rows_step (Kd.int .u8) (w0 := w) w.heap.size (by rfl) (.tmp 16) (.tmp 17) 22 5 (.int .u8 0) 1 rfl Try.underlying22 info5 rfl (by decide) (by omega) (.slice Ao38 x5_1.length co38) x5_1 y138 _ _ _ (fun k_ => some k_ ≠ (.slice Ao45 y138.length co45 : Value).ownBlock) (fun _ => False) rfl rfl ?aO ?aR (fun _ _ h => h) (fun _ h => h.elim) ?aF ?aB ?aS ?aL ?_
                              (case aR => repeat (first | exact (Kd.R_reads' HO140.out).2.2 | (with_reducible refine Kd.C_alloc ?_ _) | (with_reducible refine Kd.C_drewN ?_ _) | (with_reducible refine Kd.C_drew ?_)))
                              (case aB => exact (by repeat (first | (with_reducible first | exact HB.out | apply below_alloc | apply pw_below_drewN | apply below_drew1 | refine below_set ?_ GE119.out | refine below_set ?_ GE125.out) | exact HB.out)))
                              (case aF => exact (fun k_ hk => Kd.fresh' (Kd.R_lt (by (with_reducible repeat (first | apply Kd.R_alloc | apply Kd.R_drewN | apply Kd.R_drew)); exact HO140.out)) k_ hk))
                              (case aO => exact (by (with_reducible repeat (first | apply Kd.R_alloc | apply Kd.R_drewN | apply Kd.R_drew)); exact Kd.R_mono HO_5.out (fun _ hk => hk.2)))
                              (case aS => exact (below_size (by repeat (first | (with_reducible first | exact HB.out | apply below_alloc | apply pw_below_drewN | apply below_drew1 | refine below_set ?_ GE119.out | refine below_set ?_ GE125.out) | exact HB.out))))
                              (case aL => have := LMc33.out; omega)
                              intro v142 w44 ho hb hg hat
                              rw [← Ny141.out] at ho
                              have n0_ := Aside0.mk (blk_grown (g := gb119) (o := .cells #[.int .u8 a1_0, .int .u8 a1_1, .int .u16 a1_2, .int .u16 a1_3, .int .u16 a1_4, .int .u16 a1_5, .int .u16 a1_6, .int .u16 a1_7, .int .u16 a1_8, .int .u16 a1_9, .int .u16 a1_10, .int .u16 a1_11, .slice A1_12 l1_12.length c1_12, .slice A1_13 l1_13.length c1_13, .slice A1_14 l1_14.length c1_14, .slice (some ad124) l1_15.length c1_15, .int .u8 a1_16, .int .u8 a1_17, .int .u8 a1_18, .int .u8 a1_19, .int .u8 a1_20, .slice A1_21 l1_21.length c1_21] 30 (0, 0)) (by (with_reducible repeat (first | refine blk_drewN ?_ _ | refine blk_drew ?_ | refine blk_alloc ?_ _)); exact BK119.out) hg (Kd.R_ne HO_5.out BK119.out (by decide)))
                              have n1_ := Aside0.mk (blk_grown (g := gb125) (o := .cells #[.int .u16 ((rd_T43 l1_15 x12_1).f0), .int .u16 ((rd_T43 l1_15 x12_1).f1), .int .u16 ((rd_T43 l1_15 x12_1).f2), .slice A124_3 ((rd_T43 l1_15 x12_1).f3).length c124_3] 43 (0, 0)) (by (with_reducible repeat (first | refine blk_drewN ?_ _ | refine blk_drew ?_ | refine blk_alloc ?_ _)); exact BK125.out) hg (Kd.R_ne HO_5.out BK125.out (by decide)))
                              have n2_ := Aside0.mk (Kd.R_after (ok := (fun _ => True)) (by (with_reducible repeat (first | apply Kd.R_alloc | apply Kd.R_drewN | apply Kd.R_drew)); exact HO140.out) hg hat)
                              have n3_ := Aside0.mk (Kd.R_over' (by (with_reducible repeat (first | apply Kd.R_alloc | apply Kd.R_drewN | apply Kd.R_drew)); exact HO146.out) (Kd.R_typed (by (with_reducible repeat (first | apply Kd.R_alloc | apply Kd.R_drewN | apply Kd.R_drew)); exact HO_5.out)) (by decide) hg)
                              have n4_ := Aside0.mk (hb)
                              have n5_ := Aside0.mk (ho)
                              clear BK119
                              clear BK125
                              clear HO140
                              clear HO146
                              clear HB
                              clear HO_5
                              have BK119 := n0_
                              have BK125 := n1_
                              have HO140 := n2_
                              have HO146 := n3_
                              have HB := n4_
                              have HO143 := n5_
                              clear n0_ n1_ n2_ n3_ n4_ n5_
                              clear ho hb hg hat
                              refine hK.out _ _ ⟨(blk_cell BK125.out 0).trans rfl, (blk_cell BK125.out 1).trans rfl, (blk_cell BK125.out 2).trans rfl, (blk_cell BK125.out 3).trans rfl⟩ (fun hHeld => ?_)
                              clear hK K
                              refine norm_ (a' := ?_) ?_ ?_
                              rotate_left
                              · show Act.put _ (some 18) _ = _
                                simp only [Act.put, List.setIfInBounds_toArray, List.set_cons_zero, List.set_cons_succ, i64_w, i32_w]
                                rfl
                              exact norm_ (by simp only [putAll, Act.put, List.setIfInBounds_toArray, List.set_cons_zero, List.set_cons_succ]) (hCont (.slice Ao45 y138.length co45, v142, v145) _ ⟨hHeld, (by (with_reducible repeat (first | apply Kd.R_alloc | apply Kd.R_drewN | apply Kd.R_drew)); exact Kd.R_mono HO140.out (fun _ hk => hk.2)), (by (with_reducible repeat (first | apply Kd.R_alloc | apply Kd.R_drewN | apply Kd.R_drew)); exact HO143.out), (by (with_reducible repeat (first | apply Kd.R_alloc | apply Kd.R_drewN | apply Kd.R_drew)); exact HO146.out), (by (with_reducible repeat (first | refine blk_drewN ?_ _ | refine blk_drew ?_ | refine blk_alloc ?_ _)); exact BK119.out), (by (with_reducible repeat (first | refine blk_drewN ?_ _ | refine blk_drew ?_ | refine blk_alloc ?_ _)); exact BK125.out), (by repeat (first | (with_reducible first | exact HB.out | apply below_alloc | apply pw_below_drewN | apply below_drew1 | refine below_set ?_ GE119.out | refine below_set ?_ GE125.out) | exact HB.out))⟩)
                          · skip
                            refine Kd.R_lit_step (Kd.int .u16) _ 24 ?hg (N := 25) ?hd (xs := ([((rd_T43 l1_15 x12_1).f0), ((rd_T43 l1_15 x12_1).f1), ((rd_T43 l1_15 x12_1).f2)] : List Int)) (inner := [.int .u16 ((rd_T43 l1_15 x12_1).f0), .int .u16 ((rd_T43 l1_15 x12_1).f1), .int .u16 ((rd_T43 l1_15 x12_1).f2)]) (ok := fun _ => True) (okp := fun _ => True) ?hr ?hp (fun _ hk => hk) trivial (Below.refl _ _) (Nat.le_refl _) (by simp) ?_; (case hd => rfl); (case hg => rfl); (case hr => first | (go_simp; done) | (go_simp; rfl)); (case hp => exact (Reps.one (show Kd.M (Kd.int .u16) _ _ _ ((rd_T43 l1_15 x12_1).f0) [.int .u16 ((rd_T43 l1_15 x12_1).f0)] from rfl) (Reps.one (show Kd.M (Kd.int .u16) _ _ _ ((rd_T43 l1_15 x12_1).f1) [.int .u16 ((rd_T43 l1_15 x12_1).f1)] from rfl) (Reps.one (show Kd.M (Kd.int .u16) _ _ _ ((rd_T43 l1_15 x12_1).f2) [.int .u16 ((rd_T43 l1_15 x12_1).f2)] from rfl) (Reps.none _ _)))))
                            intro v145 w40 ho41 hb hg_ hnew_
                            clear hg_ hnew_
                            (first | rw [← Ny144.out] at ho41 | (simp only [Int.reduceToNat] at ho41; rw [← Ny144.out] at ho41))
                            have n0_ := Aside0.mk (Kd.R_below (by (with_reducible repeat (first | apply Kd.R_alloc | apply Kd.R_drewN | apply Kd.R_drew)); exact HO_5.out) hb)
                            have n1_ := Aside0.mk (Kd.R_lower ho41 (below_size (by repeat (first | (with_reducible first | exact HB.out | apply below_alloc | apply pw_below_drewN | apply below_drew1 | refine below_set ?_ GE119.out | refine below_set ?_ GE125.out) | exact HB.out))))
                            have n2_ := Aside0.mk (blk_below (g := gb119) (o := .cells #[.int .u8 a1_0, .int .u8 a1_1, .int .u16 a1_2, .int .u16 a1_3, .int .u16 a1_4, .int .u16 a1_5, .int .u16 a1_6, .int .u16 a1_7, .int .u16 a1_8, .int .u16 a1_9, .int .u16 a1_10, .int .u16 a1_11, .slice A1_12 l1_12.length c1_12, .slice A1_13 l1_13.length c1_13, .slice A1_14 l1_14.length c1_14, .slice (some ad124) l1_15.length c1_15, .int .u8 a1_16, .int .u8 a1_17, .int .u8 a1_18, .int .u8 a1_19, .int .u8 a1_20, .slice A1_21 l1_21.length c1_21] 30 (0, 0)) (by (with_reducible repeat (first | refine blk_drewN ?_ _ | refine blk_drew ?_ | refine blk_alloc ?_ _)); exact BK119.out) hb)
                            have n3_ := Aside0.mk (blk_below (g := gb125) (o := .cells #[.int .u16 ((rd_T43 l1_15 x12_1).f0), .int .u16 ((rd_T43 l1_15 x12_1).f1), .int .u16 ((rd_T43 l1_15 x12_1).f2), .slice A124_3 ((rd_T43 l1_15 x12_1).f3).length c124_3] 43 (0, 0)) (by (with_reducible repeat (first | refine blk_drewN ?_ _ | refine blk_drew ?_ | refine blk_alloc ?_ _)); exact BK125.out) hb)
                            have n4_ := Aside0.mk (below_step (by repeat (first | (with_reducible first | exact HB.out | apply below_alloc | apply pw_below_drewN | apply below_drew1 | refine below_set ?_ GE119.out | refine below_set ?_ GE125.out) | exact HB.out)) hb)
                            clear HO_5
                            clear BK119
                            clear BK125
                            clear HB
                            have HO_5 := n0_
                            have HO146 := n1_
                            have BK119 := n2_
                            have BK125 := n3_
                            have HB := n4_
                            clear n0_ n1_ n2_ n3_ n4_
                            clear hb ho41
                            refine hK.out _ _ ⟨(blk_cell BK125.out 0).trans rfl, (blk_cell BK125.out 1).trans rfl, (blk_cell BK125.out 2).trans rfl, (blk_cell BK125.out 3).trans rfl⟩ (fun hHeld => ?_)
                            clear hK K
                            refine norm_ (a' := ?_) ?_ ?_
                            rotate_left
                            · show Act.put _ (some 25) _ = _
                              simp only [Act.put, List.setIfInBounds_toArray, List.set_cons_zero, List.set_cons_succ, i64_w, i32_w]
                              rfl
                            refine one_ (i := 1) (N := some 17) #[true, true, false, true, true, true, true, true, true, true, false, false, false] rfl rfl (one_of HT_.out (by kernel_rfl)) (by decide) (fun K hK => ?_)
                            refine Kd.R_lit_step (Kd.int .u8) _ 5 ?hg (N := 17) ?hd (xs := ([6] : List Int)) (inner := [.int .u8 6]) (ok := fun _ => True) (okp := fun _ => True) ?hr ?hp (fun _ hk => hk) trivial (Below.refl _ _) (Nat.le_refl _) (by simp) ?_; (case hd => rfl); (case hg => rfl); (case hr => first | (go_simp; done) | (go_simp; rfl)); (case hp => exact (Reps.one (show Kd.M (Kd.int .u8) _ _ _ 6 [.int .u8 6] from rfl) (Reps.none _ _)))
                            intro v139 w42 ho43 hb hg_ hnew_
                            clear hg_ hnew_
                            (first | rw [← Ny138.out] at ho43 | (simp only [Int.reduceToNat] at ho43; rw [← Ny138.out] at ho43))
                            have n0_ := Aside0.mk (Kd.R_elder' (by (with_reducible repeat (first | apply Kd.R_alloc | apply Kd.R_drewN | apply Kd.R_drew)); exact HO_5.out) (Kd.R_base ho43) hb)
                            have n1_ := Aside0.mk (Kd.R_below (by (with_reducible repeat (first | apply Kd.R_alloc | apply Kd.R_drewN | apply Kd.R_drew)); exact HO146.out) hb)
                            have n2_ := Aside0.mk (Kd.R_lower (Kd.R_new' ho43 (Kd.R_lt (by (with_reducible repeat (first | apply Kd.R_alloc | apply Kd.R_drewN | apply Kd.R_drew)); exact HO_5.out))) (below_size (by repeat (first | (with_reducible first | exact HB.out | apply below_alloc | apply pw_below_drewN | apply below_drew1 | refine below_set ?_ GE119.out | refine below_set ?_ GE125.out) | exact HB.out))))
                            have n3_ := Aside0.mk (blk_below (g := gb119) (o := .cells #[.int .u8 a1_0, .int .u8 a1_1, .int .u16 a1_2, .int .u16 a1_3, .int .u16 a1_4, .int .u16 a1_5, .int .u16 a1_6, .int .u16 a1_7, .int .u16 a1_8, .int .u16 a1_9, .int .u16 a1_10, .int .u16 a1_11, .slice A1_12 l1_12.length c1_12, .slice A1_13 l1_13.length c1_13, .slice A1_14 l1_14.length c1_14, .slice (some ad124) l1_15.length c1_15, .int .u8 a1_16, .int .u8 a1_17, .int .u8 a1_18, .int .u8 a1_19, .int .u8 a1_20, .slice A1_21 l1_21.length c1_21] 30 (0, 0)) (by (with_reducible repeat (first | refine blk_drewN ?_ _ | refine blk_drew ?_ | refine blk_alloc ?_ _)); exact BK119.out) hb)
                            have n4_ := Aside0.mk (blk_below (g := gb125) (o := .cells #[.int .u16 ((rd_T43 l1_15 x12_1).f0), .int .u16 ((rd_T43 l1_15 x12_1).f1), .int .u16 ((rd_T43 l1_15 x12_1).f2), .slice A124_3 ((rd_T43 l1_15 x12_1).f3).length c124_3] 43 (0, 0)) (by (with_reducible repeat (first | refine blk_drewN ?_ _ | refine blk_drew ?_ | refine blk_alloc ?_ _)); exact BK125.out) hb)
                            have n5_ := Aside0.mk (below_step (by repeat (first | (with_reducible first | exact HB.out | apply below_alloc | apply pw_below_drewN | apply below_drew1 | refine below_set ?_ GE119.out | refine below_set ?_ GE125.out) | exact HB.out)) hb)
                            clear HO_5
                            clear HO146
                            clear BK119
                            clear BK125
                            clear HB
                            have HO_5 := n0_
                            have HO146 := n1_
                            have HO140 := n2_
                            have BK119 := n3_
                            have BK125 := n4_
                            have HB := n5_
                            clear n0_ n1_ n2_ n3_ n4_ n5_
                            clear hb ho43
                            obtain ⟨Ao45, co45, eo45⟩ := Kd.R_slice HO140.out
                            (first | subst eo45 | (injection eo45 with f1_ f2_ f3_; have f4_ := f1_.symm; have f5_ := f3_.symm; clear f1_ f2_ f3_; subst f4_; subst f5_))
                            refine hK.out _ _ ⟨(blk_cell BK125.out 0).trans rfl, (blk_cell BK125.out 1).trans rfl, (blk_cell BK125.out 2).trans rfl, (blk_cell BK125.out 3).trans rfl⟩ (fun hHeld => ?_)
                            clear hK K
                            refine norm_ (a' := ?_) ?_ ?_
                            rotate_left
                            · show Act.put _ (some 17) _ = _
                              simp only [Act.put, List.setIfInBounds_toArray, List.set_cons_zero, List.set_cons_succ, i64_w, i32_w]
                              rfl
                            refine one_ (i := 2) (N := some 18) #[true, true, true, true, true, true, true, true, true, true, false, false, false] rfl rfl (one_of HT_.out (by kernel_rfl)) (by decide) (fun K hK => ?_)
                            refine Kd.R_append_rows_step (Kd.int .u8) (w0 := w) w.heap.size (by rfl) (.tmp 16) (.tmp 17) 22 5 (.int .u8 0) 1 rfl Try.underlying22 info5 rfl (by decide) (by omega) (.slice Ao38 x5_1.length co38) x5_1 y138 _ _ _ (fun k_ => some k_ ≠ (.slice Ao45 y138.length co45 : Value).ownBlock) (fun _ => False) rfl rfl ?aO ?aR (fun _ _ h => h) (fun _ h => h.elim) ?aF ?aB ?aS ?aL ?_
                            (case aR => repeat (first | exact (Kd.R_reads' HO140.out).2.2 | (with_reducible refine Kd.C_alloc ?_ _) | (with_reducible refine Kd.C_drewN ?_ _) | (with_reducible refine Kd.C_drew ?_)))
                            (case aB => exact (by repeat (first | (with_reducible first | exact HB.out | apply below_alloc | apply pw_below_drewN | apply below_drew1 | refine below_set ?_ GE119.out | refine below_set ?_ GE125.out) | exact HB.out)))
                            (case aF => exact (fun k_ hk => Kd.fresh' (Kd.R_lt (by (with_reducible repeat (first | apply Kd.R_alloc | apply Kd.R_drewN | apply Kd.R_drew)); exact HO140.out)) k_ hk))
                            (case aO => exact (by (with_reducible repeat (first | apply Kd.R_alloc | apply Kd.R_drewN | apply Kd.R_drew)); exact Kd.R_mono HO_5.out (fun _ hk => hk.2)))
                            (case aS => exact (below_size (by repeat (first | (with_reducible first | exact HB.out | apply below_alloc | apply pw_below_drewN | apply below_drew1 | refine below_set ?_ GE119.out | refine below_set ?_ GE125.out) | exact HB.out))))
                            (case aL => have := LMc33.out; omega)
                            intro v142 w44 ho hb hg hat
                            rw [← Ny141.out] at ho
                            have n0_ := Aside0.mk (blk_grown (g := gb119) (o := .cells #[.int .u8 a1_0, .int .u8 a1_1, .int .u16 a1_2, .int .u16 a1_3, .int .u16 a1_4, .int .u16 a1_5, .int .u16 a1_6, .int .u16 a1_7, .int .u16 a1_8, .int .u16 a1_9, .int .u16 a1_10, .int .u16 a1_11, .slice A1_12 l1_12.length c1_12, .slice A1_13 l1_13.length c1_13, .slice A1_14 l1_14.length c1_14, .slice (some ad124) l1_15.length c1_15, .int .u8 a1_16, .int .u8 a1_17, .int .u8 a1_18, .int .u8 a1_19, .int .u8 a1_20, .slice A1_21 l1_21.length c1_21] 30 (0, 0)) (by (with_reducible repeat (first | refine blk_drewN ?_ _ | refine blk_drew ?_ | refine blk_alloc ?_ _)); exact BK119.out) hg (Kd.R_ne HO_5.out BK119.out (by decide)))
                            have n1_ := Aside0.mk (blk_grown (g := gb125) (o := .cells #[.int .u16 ((rd_T43 l1_15 x12_1).f0), .int .u16 ((rd_T43 l1_15 x12_1).f1), .int .u16 ((rd_T43 l1_15 x12_1).f2), .slice A124_3 ((rd_T43 l1_15 x12_1).f3).length c124_3] 43 (0, 0)) (by (with_reducible repeat (first | refine blk_drewN ?_ _ | refine blk_drew ?_ | refine blk_alloc ?_ _)); exact BK125.out) hg (Kd.R_ne HO_5.out BK125.out (by decide)))
                            have n2_ := Aside0.mk (Kd.R_over' (by (with_reducible repeat (first | apply Kd.R_alloc | apply Kd.R_drewN | apply Kd.R_drew)); exact HO146.out) (Kd.R_typed (by (with_reducible repeat (first | apply Kd.R_alloc | apply Kd.R_drewN | apply Kd.R_drew)); exact HO_5.out)) (by decide) hg)
                            have n3_ := Aside0.mk (Kd.R_after (ok := (fun _ => True)) (by (with_reducible repeat (first | apply Kd.R_alloc | apply Kd.R_drewN | apply Kd.R_drew)); exact HO140.out) hg hat)
                            have n4_ := Aside0.mk (hb)
                            have n5_ := Aside0.mk (ho)
                            clear BK119
                            clear BK125
                            clear HO146
                            clear HO140
                            clear HB
                            clear HO_5
                            have BK119 := n0_
                            have BK125 := n1_
                            have HO146 := n2_
                            have HO140 := n3_
                            have HB := n4_
                            have HO143 := n5_
                            clear n0_ n1_ n2_ n3_ n4_ n5_
                            clear ho hb hg hat
                            refine hK.out _ _ ⟨(blk_cell BK125.out 0).trans rfl, (blk_cell BK125.out 1).trans rfl, (blk_cell BK125.out 2).trans rfl, (blk_cell BK125.out 3).trans rfl⟩ (fun hHeld => ?_)
                            clear hK K
                            refine norm_ (a' := ?_) ?_ ?_
                            rotate_left
                            · show Act.put _ (some 18) _ = _
                              simp only [Act.put, List.setIfInBounds_toArray, List.set_cons_zero, List.set_cons_succ, i64_w, i32_w]
                              rfl
                            exact norm_ (by simp only [putAll, Act.put, List.setIfInBounds_toArray, List.set_cons_zero, List.set_cons_succ]) (hCont (.slice Ao45 y138.length co45, v142, v145) _ ⟨hHeld, (by (with_reducible repeat (first | apply Kd.R_alloc | apply Kd.R_drewN | apply Kd.R_drew)); exact Kd.R_mono HO140.out (fun _ hk => hk.2)), (by (with_reducible repeat (first | apply Kd.R_alloc | apply Kd.R_drewN | apply Kd.R_drew)); exact HO143.out), (by (with_reducible repeat (first | apply Kd.R_alloc | apply Kd.R_drewN | apply Kd.R_drew)); exact HO146.out), (by (with_reducible repeat (first | refine blk_drewN ?_ _ | refine blk_drew ?_ | refine blk_alloc ?_ _)); exact BK119.out), (by (with_reducible repeat (first | refine blk_drewN ?_ _ | refine blk_drew ?_ | refine blk_alloc ?_ _)); exact BK125.out), (by repeat (first | (with_reducible first | exact HB.out | apply below_alloc | apply pw_below_drewN | apply below_drew1 | refine below_set ?_ GE119.out | refine below_set ?_ GE125.out) | exact HB.out))⟩)
                        rintro ⟨v139, v142, v145⟩ w46 ⟨hS_, h0_, h1_, h2_, h3_, h4_, h5_⟩
                        have n0_ : Aside0 (Kd.R (Kd.int .u8) 5 w46 w.heap.size (fun k_ => some k_ ≠ (v142 : Value).ownBlock) v139 y138) := ⟨h0_⟩
                        have n1_ : Aside0 (Kd.R (Kd.int .u8) 5 w46 w.heap.size (fun k_ => some k_ ≠ (v139 : Value).ownBlock) v142 y141) := ⟨h1_⟩
                        have n2_ : Aside0 (Kd.R (Kd.int .u16) 24 w46 w.heap.size (fun _ => True) v145 y144) := ⟨h2_⟩
                        have n3_ : Aside0 (w46.heap[gb119]? = some (.cells #[.int .u8 a1_0, .int .u8 a1_1, .int .u16 a1_2, .int .u16 a1_3, .int .u16 a1_4, .int .u16 a1_5, .int .u16 a1_6, .int .u16 a1_7, .int .u16 a1_8, .int .u16 a1_9, .int .u16 a1_10, .int .u16 a1_11, .slice A1_12 l1_12.length c1_12, .slice A1_13 l1_13.length c1_13, .slice A1_14 l1_14.length c1_14, .slice (some ad124) l1_15.length c1_15, .int .u8 a1_16, .int .u8 a1_17, .int .u8 a1_18, .int .u8 a1_19, .int .u8 a1_20, .slice A1_21 l1_21.length c1_21] 30 (0, 0))) := ⟨h3_⟩
                        have n4_ : Aside0 (w46.heap[gb125]? = some (.cells #[.int .u16 ((rd_T43 l1_15 x12_1).f0), .int .u16 ((rd_T43 l1_15 x12_1).f1), .int .u16 ((rd_T43 l1_15 x12_1).f2), .slice A124_3 ((rd_T43 l1_15 x12_1).f3).length c124_3] 43 (0, 0))) := ⟨h4_⟩
                        have n5_ : Aside0 (Below w.heap.size w w46) := ⟨h5_⟩
                        clear HO_5
                        clear BK119
                        clear BK125
                        clear HB
                        clear h0_ h1_ h2_ h3_ h4_ h5_
                        have HO140 := n0_
                        have HO143 := n1_
                        have HO146 := n2_
                        have BK119 := n3_
                        have BK125 := n4_
                        have HB := n5_
                        clear n0_ n1_ n2_ n3_ n4_ n5_
                        have hHeld : w46.cell? ⟨gb125, 0, none⟩ = some (.int .u16 ((rd_T43 l1_15 x12_1).f0)) ∧ w46.cell? ⟨gb125, 1, none⟩ = some (.int .u16 ((rd_T43 l1_15 x12_1).f1)) ∧ w46.cell? ⟨gb125, 2, none⟩ = some (.int .u16 ((rd_T43 l1_15 x12_1).f2)) ∧ w46.cell? ⟨gb125, 3, none⟩ = some (.slice A124_3 ((rd_T43 l1_15 x12_1).f3).length c124_3) := hS_
                        obtain ⟨Ao47, co47, eo47⟩ := Kd.R_slice HO146.out
                        (first | subst eo47 | (injection eo47 with f1_ f2_ f3_; have f4_ := f1_.symm; have f5_ := f3_.symm; clear f1_ f2_ f3_; subst f4_; subst f5_))
                        refine norm_ (a' := ?_) ?_ ?_
                        rotate_left
                        · simp only [putAll, Act.put, List.setIfInBounds_toArray, List.set_cons_zero, List.set_cons_succ]
                          rfl
                        refine one_ (i := 10) (N := some 26) #[true, true, true, true, true, true, true, true, true, true, true, false, false] rfl rfl (one_of HT_.out (by kernel_rfl)) (by decide) (fun K hK => ?_)
                        refine goes_ Try.func49 (by kernel_rfl) rfl #[.slice Ao47 y144.length co47] (by rfl) rfl rfl (by (try simp only [List.map_toArray, List.map_cons, List.map_nil]); first | done | rfl | (simp only [List.length_drop, List.length_take]; rfl)) ?_
                        with_reducible refine (word_Put.calls kj9 _ _ y144 t147 _ ?side1 ?side2 A34.out).mono ?_
                        (case side1 => repeat (first | exact (Kd.R_reads' HO146.out).2.2 | (with_reducible refine Kd.C_alloc ?_ _) | (with_reducible refine Kd.C_drewN ?_ _) | (with_reducible refine Kd.C_drew ?_)))
                        (case side2 => exact (Kd.R_reads' HO146.out).2.1)
                        rintro e w48 ⟨v148, rfl, ho0, hb⟩
                        refine ⟨_, rfl, ?_⟩
                        have n0_ := Aside0.mk (Kd.R_elder' (by (with_reducible repeat (first | apply Kd.R_alloc | apply Kd.R_drewN | apply Kd.R_drew)); exact HO140.out) (Kd.R_base ho0) hb)
                        have n1_ := Aside0.mk (Kd.R_elder' (by (with_reducible repeat (first | apply Kd.R_alloc | apply Kd.R_drewN | apply Kd.R_drew)); exact HO143.out) (Kd.R_base ho0) hb)
                        have n2_ := Aside0.mk (Kd.R_below (by (with_reducible repeat (first | apply Kd.R_alloc | apply Kd.R_drewN | apply Kd.R_drew)); exact HO146.out) hb)
                        have n3_ := Aside0.mk (Kd.R_lower (Kd.R_new' (Kd.R_new' ho0 (Kd.R_lt (by (with_reducible repeat (first | apply Kd.R_alloc | apply Kd.R_drewN | apply Kd.R_drew)); exact HO140.out))) (Kd.R_lt (by (with_reducible repeat (first | apply Kd.R_alloc | apply Kd.R_drewN | apply Kd.R_drew)); exact HO143.out))) (below_size (by repeat (first | (with_reducible first | exact HB.out | apply below_alloc | apply pw_below_drewN | apply below_drew1 | refine below_set ?_ GE119.out | refine below_set ?_ GE125.out) | exact HB.out))))
                        have n4_ := Aside0.mk (blk_below (g := gb119) (o := .cells #[.int .u8 a1_0, .int .u8 a1_1, .int .u16 a1_2, .int .u16 a1_3, .int .u16 a1_4, .int .u16 a1_5, .int .u16 a1_6, .int .u16 a1_7, .int .u16 a1_8, .int .u16 a1_9, .int .u16 a1_10, .int .u16 a1_11, .slice A1_12 l1_12.length c1_12, .slice A1_13 l1_13.length c1_13, .slice A1_14 l1_14.length c1_14, .slice (some ad124) l1_15.length c1_15, .int .u8 a1_16, .int .u8 a1_17, .int .u8 a1_18, .int .u8 a1_19, .int .u8 a1_20, .slice A1_21 l1_21.length c1_21] 30 (0, 0)) (by (with_reducible repeat (first | refine blk_drewN ?_ _ | refine blk_drew ?_ | refine blk_alloc ?_ _)); exact BK119.out) hb)
                        have n5_ := Aside0.mk (blk_below (g := gb125) (o := .cells #[.int .u16 ((rd_T43 l1_15 x12_1).f0), .int .u16 ((rd_T43 l1_15 x12_1).f1), .int .u16 ((rd_T43 l1_15 x12_1).f2), .slice A124_3 ((rd_T43 l1_15 x12_1).f3).length c124_3] 43 (0, 0)) (by (with_reducible repeat (first | refine blk_drewN ?_ _ | refine blk_drew ?_ | refine blk_alloc ?_ _)); exact BK125.out) hb)
                        have n6_ := Aside0.mk (below_step (by repeat (first | (with_reducible first | exact HB.out | apply below_alloc | apply pw_below_drewN | apply below_drew1 | refine below_set ?_ GE119.out | refine below_set ?_ GE125.out) | exact HB.out)) hb)
                        clear HO140
                        clear HO143
                        clear HO146
                        clear BK119
                        clear BK125
                        clear HB
                        have HO140 := n0_
                        have HO143 := n1_
                        have HO146 := n2_
                        have HO149 := n3_
                        have BK119 := n4_
                        have BK125 := n5_
                        have HB := n6_
                        clear n0_ n1_ n2_ n3_ n4_ n5_ n6_
                        (try clear hb)
                        (try clear hb2)
                        (try clear hk)
                        (try clear hi)
                        (try clear ho0)
                        obtain ⟨Ao50, co50, eo50⟩ := Kd.R_slice HO149.out
                        (first | subst eo50 | (injection eo50 with f1_ f2_ f3_; have f4_ := f1_.symm; have f5_ := f3_.symm; clear f1_ f2_ f3_; subst f4_; subst f5_))
                        refine hK.out _ _ ⟨(blk_cell BK125.out 0).trans rfl, (blk_cell BK125.out 1).trans rfl, (blk_cell BK125.out 2).trans rfl, (blk_cell BK125.out 3).trans rfl⟩ (fun hHeld => ?_)
                        clear hK K
                        refine norm_ (a' := ?_) ?_ ?_
                        rotate_left
                        · show Act.put _ (some 26) _ = _
                          simp only [Act.put, List.setIfInBounds_toArray, List.set_cons_zero, List.set_cons_succ, i64_w, i32_w]
                          rfl
                        refine one_ (i := 11) (N := some 27) #[true, true, true, true, true, true, true, true, true, true, true, true, false] rfl rfl (one_of HT_.out (by kernel_rfl)) (by decide) (fun K hK => ?_)
                        refine Kd.R_append_rows_step (Kd.int .u8) (w0 := w) w.heap.size (by rfl) (.tmp 18) (.tmp 26) 22 5 (.int .u8 0) 1 rfl Try.underlying22 info5 rfl (by decide) (by omega) v142 y141 t147 _ _ _ (fun k_ => some k_ ≠ (v139 : Value).ownBlock ∧ some k_ ≠ (.slice Ao50 t147.length co50 : Value).ownBlock) (fun _ => False) rfl rfl ?aO ?aR (fun _ _ h => h) (fun _ h => h.elim) ?aF ?aB ?aS ?aL ?_
                        (case aR => repeat (first | exact (Kd.R_reads' HO149.out).2.2 | (with_reducible refine Kd.C_alloc ?_ _) | (with_reducible refine Kd.C_drewN ?_ _) | (with_reducible refine Kd.C_drew ?_)))
                        (case aB => exact (by repeat (first | (with_reducible first | exact HB.out | apply below_alloc | apply pw_below_drewN | apply below_drew1 | refine below_set ?_ GE119.out | refine below_set ?_ GE125.out) | exact HB.out)))
                        (case aF => exact (fun k_ hk => ⟨Kd.fresh' (Kd.R_lt (by (with_reducible repeat (first | apply Kd.R_alloc | apply Kd.R_drewN | apply Kd.R_drew)); exact HO140.out)) k_ hk, Kd.fresh' (Kd.R_lt (by (with_reducible repeat (first | apply Kd.R_alloc | apply Kd.R_drewN | apply Kd.R_drew)); exact HO149.out)) k_ hk⟩))
                        (case aO => exact (by (with_reducible repeat (first | apply Kd.R_alloc | apply Kd.R_drewN | apply Kd.R_drew)); exact HO143.out))
                        (case aS => exact (below_size (by repeat (first | (with_reducible first | exact HB.out | apply below_alloc | apply pw_below_drewN | apply below_drew1 | refine below_set ?_ GE119.out | refine below_set ?_ GE125.out) | exact HB.out))))
                        (case aL => have := LMc35.out; omega)
                        intro v151 w49 ho hb hg hat
                        rw [← Ny150.out] at ho
                        have n0_ := Aside0.mk (blk_grown (g := gb119) (o := .cells #[.int .u8 a1_0, .int .u8 a1_1, .int .u16 a1_2, .int .u16 a1_3, .int .u16 a1_4, .int .u16 a1_5, .int .u16 a1_6, .int .u16 a1_7, .int .u16 a1_8, .int .u16 a1_9, .int .u16 a1_10, .int .u16 a1_11, .slice A1_12 l1_12.length c1_12, .slice A1_13 l1_13.length c1_13, .slice A1_14 l1_14.length c1_14, .slice (some ad124) l1_15.length c1_15, .int .u8 a1_16, .int .u8 a1_17, .int .u8 a1_18, .int .u8 a1_19, .int .u8 a1_20, .slice A1_21 l1_21.length c1_21] 30 (0, 0)) (by (with_reducible repeat (first | refine blk_drewN ?_ _ | refine blk_drew ?_ | refine blk_alloc ?_ _)); exact BK119.out) hg (Kd.R_ne HO143.out BK119.out (by decide)))
                        have n1_ := Aside0.mk (blk_grown (g := gb125) (o := .cells #[.int .u16 ((rd_T43 l1_15 x12_1).f0), .int .u16 ((rd_T43 l1_15 x12_1).f1), .int .u16 ((rd_T43 l1_15 x12_1).f2), .slice A124_3 ((rd_T43 l1_15 x12_1).f3).length c124_3] 43 (0, 0)) (by (with_reducible repeat (first | refine blk_drewN ?_ _ | refine blk_drew ?_ | refine blk_alloc ?_ _)); exact BK125.out) hg (Kd.R_ne HO143.out BK125.out (by decide)))
                        have n2_ := Aside0.mk (Kd.R_after (ok := (fun k_ => some k_ ≠ (.slice Ao50 t147.length co50 : Value).ownBlock)) (by (with_reducible repeat (first | apply Kd.R_alloc | apply Kd.R_drewN | apply Kd.R_drew)); exact Kd.R_mono HO140.out (fun _ hk => ⟨hk.2, hk.1⟩)) hg hat)
                        have n3_ := Aside0.mk (Kd.R_over' (by (with_reducible repeat (first | apply Kd.R_alloc | apply Kd.R_drewN | apply Kd.R_drew)); exact HO146.out) (Kd.R_typed (by (with_reducible repeat (first | apply Kd.R_alloc | apply Kd.R_drewN | apply Kd.R_drew)); exact HO143.out)) (by decide) hg)
                        have n4_ := Aside0.mk (Kd.R_after (ok := (fun k_ => some k_ ≠ (v139 : Value).ownBlock)) (by (with_reducible repeat (first | apply Kd.R_alloc | apply Kd.R_drewN | apply Kd.R_drew)); exact Kd.R_mono HO149.out (fun _ hk => ⟨hk.1.2, hk.2⟩)) hg hat)
                        have n5_ := Aside0.mk (hb)
                        have n6_ := Aside0.mk (ho)
                        clear BK119
                        clear BK125
                        clear HO140
                        clear HO146
                        clear HO149
                        clear HB
                        clear HO143
                        have BK119 := n0_
                        have BK125 := n1_
                        have HO140 := n2_
                        have HO146 := n3_
                        have HO149 := n4_
                        have HB := n5_
                        have HO152 := n6_
                        clear n0_ n1_ n2_ n3_ n4_ n5_ n6_
                        clear ho hb hg hat
                        refine hK.out _ _ ⟨(blk_cell BK125.out 0).trans rfl, (blk_cell BK125.out 1).trans rfl, (blk_cell BK125.out 2).trans rfl, (blk_cell BK125.out 3).trans rfl⟩ (fun hHeld => ?_)
                        clear hK K
                        refine norm_ (a' := ?_) ?_ ?_
                        rotate_left
                        · show Act.put _ (some 27) _ = _
                          simp only [Act.put, List.setIfInBounds_toArray, List.set_cons_zero, List.set_cons_succ, i64_w, i32_w]
                          rfl
                        refine pure_ (i := 12) (N := some 5) (v := ?_) (a' := ?_) #[true, true, true, true, true, true, true, true, true, true, true, true, true] rfl rfl (any_of HT_.out (by kernel_rfl)) (fun _ _ _ h => h) (Or.inl ⟨by rfl, ?_⟩) ?_ ?_
                        rotate_left
                        · intro w'
                          go_simp
                          with_reducible rfl
                        rotate_left
                        · simp only [Act.put, List.setIfInBounds_toArray, List.set_cons_zero, List.set_cons_succ, i64_w, i32_w]
                          rfl
                        refine done_ (done_of HT_.out (by kernel_rfl)) ?_
                        have hnb51 := NB125_119.out
                        have hnc51 := NB119_125.out
                        have hcz52_0 : w49.cell? ⟨gb125, 0, none⟩ = some (.int .u16 ((rd_T43 l1_15 x12_1).f0)) := (blk_cell BK125.out 0).trans rfl
                        have hcz52_1 : w49.cell? ⟨gb125, 1, none⟩ = some (.int .u16 ((rd_T43 l1_15 x12_1).f1)) := (blk_cell BK125.out 1).trans rfl
                        have hcz52_2 : w49.cell? ⟨gb125, 2, none⟩ = some (.int .u16 ((rd_T43 l1_15 x12_1).f2)) := (blk_cell BK125.out 2).trans rfl
                        have hcz52_3 : w49.cell? ⟨gb125, 3, none⟩ = some (.slice A124_3 ((rd_T43 l1_15 x12_1).f3).length c124_3) := (blk_cell BK125.out 3).trans rfl
                        have hfz52_0 := blk_frozen BK125.out 0
                        have hfz52_1 := blk_frozen BK125.out 1
                        have hfz52_2 := blk_frozen BK125.out 2
                        have hfz52_3 := blk_frozen BK125.out 3
                        try go_wp2_with (first | ((with_reducible refine gate_callee (f := 49) rfl ?_); refine goesL_ (some 48) rfl rfl Try.func49 (by kernel_rfl) rfl #[.slice A124_3 ((rd_T43 l1_15 x12_1).f3).length c124_3] rfl (by (try simp only [List.map_toArray, List.map_cons, List.map_nil]); first | done | rfl | (simp only [List.length_drop, List.length_take]; rfl)) ?_; (with_reducible refine (word_Put.calls kj9 _ _ ((rd_T43 l1_15 x12_1).f3) t153 _ ?side1 ?side2 A36.out).mono ?_); (case side1 => repeat (first | exact (Kd.C_below HR124_3.out HB.out) | (with_reducible refine Kd.C_alloc ?_ _) | (with_reducible refine Kd.C_drewN ?_ _) | (with_reducible refine Kd.C_drew ?_))); (case side2 => exact HC124_3.out); rintro e w53 ⟨v154, rfl, ho0, hb⟩; refine ⟨_, rfl, ?_⟩; have n0_ := Aside0.mk (Kd.R_elder' (by (with_reducible repeat (first | apply Kd.R_alloc | apply Kd.R_drewN | apply Kd.R_drew)); exact HO140.out) (Kd.R_base ho0) hb); have n1_ := Aside0.mk (Kd.R_below (by (with_reducible repeat (first | apply Kd.R_alloc | apply Kd.R_drewN | apply Kd.R_drew)); exact HO146.out) hb); have n2_ := Aside0.mk (Kd.R_elder' (by (with_reducible repeat (first | apply Kd.R_alloc | apply Kd.R_drewN | apply Kd.R_drew)); exact HO149.out) (Kd.R_base ho0) hb); have n3_ := Aside0.mk (Kd.R_elder' (by (with_reducible repeat (first | apply Kd.R_alloc | apply Kd.R_drewN | apply Kd.R_drew)); exact HO152.out) (Kd.R_base ho0) hb); have n4_ := Aside0.mk (Kd.R_lower (Kd.R_new' (Kd.R_new' (Kd.R_new' ho0 (Kd.R_lt (by (with_reducible repeat (first | apply Kd.R_alloc | apply Kd.R_drewN | apply Kd.R_drew)); exact HO140.out))) (Kd.R_lt (by (with_reducible repeat (first | apply Kd.R_alloc | apply Kd.R_drewN | apply Kd.R_drew)); exact HO149.out))) (Kd.R_lt (by (with_reducible repeat (first | apply Kd.R_alloc | apply Kd.R_drewN | apply Kd.R_drew)); exact HO152.out))) (below_size (by repeat (first | (with_reducible first | exact HB.out | apply below_alloc | apply pw_below_drewN | apply below_drew1 | refine below_set ?_ GE119.out | refine below_set ?_ GE125.out) | exact HB.out)))); have n5_ := Aside0.mk (blk_below (g := gb119) (o := .cells #[.int .u8 a1_0, .int .u8 a1_1, .int .u16 a1_2, .int .u16 a1_3, .int .u16 a1_4, .int .u16 a1_5, .int .u16 a1_6, .int .u16 a1_7, .int .u16 a1_8, .int .u16 a1_9, .int .u16 a1_10, .int .u16 a1_11, .slice A1_12 l1_12.length c1_12, .slice A1_13 l1_13.length c1_13, .slice A1_14 l1_14.length c1_14, .slice (some ad124) l1_15.length c1_15, .int .u8 a1_16, .int .u8 a1_17, .int .u8 a1_18, .int .u8 a1_19, .int .u8 a1_20, .slice A1_21 l1_21.length c1_21] 30 (0, 0)) (by (with_reducible repeat (first | refine blk_drewN ?_ _ | refine blk_drew ?_ | refine blk_alloc ?_ _)); exact BK119.out) hb); have n6_ := Aside0.mk (blk_below (g := gb125) (o := .cells #[.int .u16 ((rd_T43 l1_15 x12_1).f0), .int .u16 ((rd_T43 l1_15 x12_1).f1), .int .u16 ((rd_T43 l1_15 x12_1).f2), .slice A124_3 ((rd_T43 l1_15 x12_1).f3).length c124_3] 43 (0, 0)) (by (with_reducible repeat (first | refine blk_drewN ?_ _ | refine blk_drew ?_ | refine blk_alloc ?_ _)); exact BK125.out) hb); have n7_ := Aside0.mk (below_step (by repeat (first | (with_reducible first | exact HB.out | apply below_alloc | apply pw_below_drewN | apply below_drew1 | refine below_set ?_ GE119.out | refine below_set ?_ GE125.out) | exact HB.out)) hb); clear HO140; clear HO146; clear HO149; clear HO152; clear BK119; clear BK125; clear HB; have HO140 := n0_; have HO146 := n1_; have HO149 := n2_; have HO152 := n3_; have HO155 := n4_; have BK119 := n5_; have BK125 := n6_; have HB := n7_; clear n0_ n1_ n2_ n3_ n4_ n5_ n6_ n7_; (try clear hb); (try clear hb2); (try clear hk); (try clear hi); (try clear ho0); obtain ⟨Ao55, co55, eo55⟩ := Kd.R_slice HO155.out; subst eo55) | ((with_reducible refine gate_builtin (b := .append) (xs := #[.tmp 45, .tmp 48]) rfl ?_); at_builtin; refine Kd.R_append_rows (Kd.int .u8) (w0 := w) w.heap.size rfl (.tmp 45) (.tmp 48) 22 5 (.int .u8 0) 1 rfl Try.underlying22 info5 rfl (by decide) (by omega) v151 y150 t153 _ _ _ (fun k_ => some k_ ≠ (v139 : Value).ownBlock ∧ some k_ ≠ (.slice Ao50 t147.length co50 : Value).ownBlock ∧ some k_ ≠ (.slice Ao55 t153.length co55 : Value).ownBlock) (fun _ => False) rfl rfl ?aO ?aR (fun _ _ h => h) (fun _ h => h.elim) ?aF ?aB ?aS ?aL ?_; (case aR => repeat (first | exact (Kd.R_reads' HO155.out).2.2 | (with_reducible refine Kd.C_alloc ?_ _) | (with_reducible refine Kd.C_drewN ?_ _) | (with_reducible refine Kd.C_drew ?_))); (case aB => exact (by repeat (first | (with_reducible first | exact HB.out | apply below_alloc | apply pw_below_drewN | apply below_drew1 | refine below_set ?_ GE119.out | refine below_set ?_ GE125.out) | exact HB.out))); (case aF => exact (fun k_ hk => ⟨Kd.fresh' (Kd.R_lt (by (with_reducible repeat (first | apply Kd.R_alloc | apply Kd.R_drewN | apply Kd.R_drew)); exact HO140.out)) k_ hk, Kd.fresh' (Kd.R_lt (by (with_reducible repeat (first | apply Kd.R_alloc | apply Kd.R_drewN | apply Kd.R_drew)); exact HO149.out)) k_ hk, Kd.fresh' (Kd.R_lt (by (with_reducible repeat (first | apply Kd.R_alloc | apply Kd.R_drewN | apply Kd.R_drew)); exact HO155.out)) k_ hk⟩)); (case aO => exact (by (with_reducible repeat (first | apply Kd.R_alloc | apply Kd.R_drewN | apply Kd.R_drew)); exact Kd.R_mono HO152.out (fun _ hk => ⟨hk.1.1, ⟨hk.1.2, hk.2⟩⟩))); (case aS => exact (below_size (by repeat (first | (with_reducible first | exact HB.out | apply below_alloc | apply pw_below_drewN | apply below_drew1 | refine below_set ?_ GE119.out | refine below_set ?_ GE125.out) | exact HB.out)))); (case aL => have := LMc37.out; omega); intro v157 w54 ho hb hg hat; rw [← Ny156.out] at ho; have n0_ := Aside0.mk (blk_grown (g := gb119) (o := .cells #[.int .u8 a1_0, .int .u8 a1_1, .int .u16 a1_2, .int .u16 a1_3, .int .u16 a1_4, .int .u16 a1_5, .int .u16 a1_6, .int .u16 a1_7, .int .u16 a1_8, .int .u16 a1_9, .int .u16 a1_10, .int .u16 a1_11, .slice A1_12 l1_12.length c1_12, .slice A1_13 l1_13.length c1_13, .slice A1_14 l1_14.length c1_14, .slice (some ad124) l1_15.length c1_15, .int .u8 a1_16, .int .u8 a1_17, .int .u8 a1_18, .int .u8 a1_19, .int .u8 a1_20, .slice A1_21 l1_21.length c1_21] 30 (0, 0)) (by (with_reducible repeat (first | refine blk_drewN ?_ _ | refine blk_drew ?_ | refine blk_alloc ?_ _)); exact BK119.out) hg (Kd.R_ne HO152.out BK119.out (by decide))); have n1_ := Aside0.mk (blk_grown (g := gb125) (o := .cells #[.int .u16 ((rd_T43 l1_15 x12_1).f0), .int .u16 ((rd_T43 l1_15 x12_1).f1), .int .u16 ((rd_T43 l1_15 x12_1).f2), .slice A124_3 ((rd_T43 l1_15 x12_1).f3).length c124_3] 43 (0, 0)) (by (with_reducible repeat (first | refine blk_drewN ?_ _ | refine blk_drew ?_ | refine blk_alloc ?_ _)); exact BK125.out) hg (Kd.R_ne HO152.out BK125.out (by decide))); have n2_ := Aside0.mk (Kd.R_after (ok := (fun k_ => some k_ ≠ (.slice Ao50 t147.length co50 : Value).ownBlock ∧ some k_ ≠ (.slice Ao55 t153.length co55 : Value).ownBlock)) (by (with_reducible repeat (first | apply Kd.R_alloc | apply Kd.R_drewN | apply Kd.R_drew)); exact Kd.R_mono HO140.out (fun _ hk => ⟨⟨hk.1.1, hk.2⟩, hk.1.2⟩)) hg hat); have n3_ := Aside0.mk (Kd.R_over' (by (with_reducible repeat (first | apply Kd.R_alloc | apply Kd.R_drewN | apply Kd.R_drew)); exact HO146.out) (Kd.R_typed (by (with_reducible repeat (first | apply Kd.R_alloc | apply Kd.R_drewN | apply Kd.R_drew)); exact HO152.out)) (by decide) hg); have n4_ := Aside0.mk (Kd.R_after (ok := (fun k_ => some k_ ≠ (v139 : Value).ownBlock ∧ some k_ ≠ (.slice Ao55 t153.length co55 : Value).ownBlock)) (by (with_reducible repeat (first | apply Kd.R_alloc | apply Kd.R_drewN | apply Kd.R_drew)); exact Kd.R_mono HO149.out (fun _ hk => ⟨⟨hk.1.1, hk.2⟩, hk.1.2⟩)) hg hat); have n5_ := Aside0.mk (Kd.R_after (ok := (fun k_ => some k_ ≠ (v139 : Value).ownBlock ∧ some k_ ≠ (.slice Ao50 t147.length co50 : Value).ownBlock)) (by (with_reducible repeat (first | apply Kd.R_alloc | apply Kd.R_drewN | apply Kd.R_drew)); exact Kd.R_mono HO155.out (fun _ hk => ⟨⟨hk.1.1.2, hk.1.2⟩, hk.2⟩)) hg hat); have n6_ := Aside0.mk (hb); have n7_ := Aside0.mk (ho); clear BK119; clear BK125; clear HO140; clear HO146; clear HO149; clear HO155; clear HB; clear HO152; have BK119 := n0_; have BK125 := n1_; have HO140 := n2_; have HO146 := n3_; have HO149 := n4_; have HO155 := n5_; have HB := n6_; have HO158 := n7_; clear n0_ n1_ n2_ n3_ n4_ n5_ n6_ n7_; clear ho hb hg hat))
                        go_roundg kj9
                        case measure => have := HK1.out; have := HJ9.out; omega
                        case rel => exact ⟨(y156), (wrap64 (x12_1 + 1)), (by first | rfl | (simp; done) | (simp [*]; done)), H', ⟨by have := HK1.out; have := HJ9.out; omega⟩, ⟨by (with_reducible repeat (first | apply Kd.R_alloc | apply Kd.R_drewN | apply Kd.R_drew)); exact Kd.R_mono HO158.out (fun _ hk => trivial)⟩, ⟨by (with_reducible repeat (first | refine blk_drewN ?_ _ | refine blk_drew ?_ | refine blk_alloc ?_ _)); exact BK119.out⟩, ⟨by repeat (first | (with_reducible first | exact HB.out | apply below_alloc | apply pw_below_drewN | apply below_drew1 | refine below_set ?_ GE119.out | refine below_set ?_ GE125.out) | exact HB.out)⟩⟩
                      · rw [if_neg c37] at H
                        exact absurd H (by simp)
                    · rw [if_neg c35] at H
                      exact absurd H (by simp)
                  · rw [if_neg c33] at H
                    exact absurd H (by simp)
          · rw [if_neg c9] at H
            exact absurd H (by simp)
        · rw [if_neg c8] at H
          exact absurd H (by simp)
      · rw [if_neg c7] at H
        have c7b0 : decide (x12_1 < (l1_15.length : Int)) = false := decide_eq_false c7
        clear c7
        by_cases c56 : 0 < (x5_1.length : Int)
        · rw [if_pos c56] at H
          have c56b0 : decide (0 < (x5_1.length : Int)) = true := decide_eq_true c56
          have c56b1 : decide (0 < x5_1.length) = true := decide_eq_true (by omega)
          clear c56
          obtain ⟨y123, hy123⟩ : ∃ y_ : List Int, y_ = (x5_1.set (0 : Int).toNat ((wrap64 ((x5_1.length : Int) - 1)) % 256)) := ⟨_, rfl⟩
          replace H : (some y123) = some r := by first | (rw [hy123]; with_reducible exact H) | (have H2_ := (Option.bind_some _ _).symm.trans H; rw [hy123]; with_reducible exact H2_) | (have H2_ := (Option.bind_some _ _).symm.trans H; with_reducible exact H2_) | with_reducible exact H | (rw [hy123]; exact H) | exact H
          have Ny123 := Aside0.mk hy123
          clear hy123
          obtain rfl := Option.some.inj H
          obtain ⟨Ao58, co58, eo58⟩ := Kd.R_slice HO_5.out
          subst eo58
          have p57 : 0 ≤ (0 : Int) := (by omega)
          have q57 : (0 : Int) < ((x5_1.length : Int) : Int) := of_decide_eq_true (by first | (with_reducible assumption) | assumption)
          have qi57 : (0 < x5_1.length) = True := eq_true (by omega)
          obtain ⟨go57, co57, eo57, gb57, gl57, cl57, HG57⟩ := Kd.R_form HO_5.out (by omega)
          (first | cases eo57 | (injection eo57 with ea_ en_ ec_; (first | subst ea_ | (injection ea_ with ea_; subst ea_)); subst ec_; clear en_))
          have GB57 := Aside0.mk gb57
          have GG57 := Aside0.mk HG57
          clear gb57 gl57 HG57
          obtain ⟨hx57_0, hf57_0⟩ := Kd.R_celln 0 HO_5.out (0 : Int) p57 q57
          (try rw [show ((0 : Int)).toNat = 0 from rfl] at hx57_0)
          (try simp only [Nat.reduceMul, Nat.zero_mul, Nat.zero_add, Nat.reduceAdd] at hx57_0)
          (try rw [show ((0 : Int)).toNat = 0 from rfl] at hf57_0)
          (try simp only [Nat.reduceMul, Nat.zero_mul, Nat.zero_add, Nat.reduceAdd] at hf57_0)
          replace p57 := eq_true p57
          replace q57 := eq_true q57
          have HP59 := Kd.R_putg HO_5.out (0 : Int) ((wrap64 ((x5_1.length : Int) - 1)) % 256)
          go_wp2_with (first | ((with_reducible refine gate_store (t := 5) (p := 56) rfl ?_); refine store_event (t := 5) (p := 56) (v := ?vo_w60) (w1 := (wr.setCell ⟨go57, (0 : Int).toNat, none⟩ (.int .u8 ((wrap64 ((x5_1.length : Int) - 1)) % 256)))) ?hg ?ho ?hn ?hr ?_; (case ho => rfl); (case hg => rfl); (case hn => rfl); (case hr => first | (go_simp; done) | (go_simp; rfl)); intro w60 hw; have hg : wr.grownBy w60 (some go57) := (by rw [hw]; exact HP59.2); have hp_ : Kd.R (Kd.int .u8) 5 w60 w.heap.size (fun _ => True) (.slice (some ⟨go57, 0, none⟩) x5_1.length co58) y123 := (by rw [hw, Ny123.out]; exact HP59.1); clear HP59; have n0_ := Aside0.mk (hp_); have n1_ := Aside0.mk (blk_grown (g := gb119) (o := .cells #[.int .u8 a1_0, .int .u8 a1_1, .int .u16 a1_2, .int .u16 a1_3, .int .u16 a1_4, .int .u16 a1_5, .int .u16 a1_6, .int .u16 a1_7, .int .u16 a1_8, .int .u16 a1_9, .int .u16 a1_10, .int .u16 a1_11, .slice A1_12 l1_12.length c1_12, .slice A1_13 l1_13.length c1_13, .slice A1_14 l1_14.length c1_14, .slice A1_15 l1_15.length c1_15, .int .u8 a1_16, .int .u8 a1_17, .int .u8 a1_18, .int .u8 a1_19, .int .u8 a1_20, .slice A1_21 l1_21.length c1_21] 30 (0, 0)) (by (with_reducible repeat (first | refine blk_drewN ?_ _ | refine blk_drew ?_ | refine blk_alloc ?_ _)); exact BK119.out) hg (Kd.R_ne HO_5.out BK119.out (by decide))); have n2_ := Aside0.mk ((by rw [hw]; exact below_set (HB.out) GB57.out : Below w.heap.size w w60)); clear HO_5; clear BK119; clear HB; have HO_5 := n0_; have BK119 := n1_; have HB := n2_; clear n0_ n1_ n2_; clear hg hw hp_))
          go_ret
          exact ⟨_, by first | rfl | (simp [errW_none, errW_some] <;> rfl) | (simp [*, errW_none, errW_some] <;> rfl), by (with_reducible repeat (first | apply Kd.R_alloc | apply Kd.R_drewN | apply Kd.R_drew)); exact HO_5.out, by repeat (first | (with_reducible first | exact HB.out | apply below_alloc | apply pw_below_drewN | apply below_drew1 | refine below_set ?_ GE119.out) | exact HB.out)⟩
        · rw [if_neg c56] at H
          exact absurd H (by simp)
end Go.Proofs.Ytdjeekpgcjcffaa.P
end
section
namespace Go.Proofs.Ytdjeekpgcjcffaa.Fil
open Go.RowKit Go.Proofs.Ytdjeekpgcjcffaa.P Go.Proofs.Ytdjeekpgcjcffaa.E Go.Proofs.Ytdjeekpgcjcffaa.Cur Go.Proofs.Ytdjeekpgcjcffaa.Cu Go.Proofs.Ytdjeekpgcjcffaa.Same Go.Proofs.Ytdjeekpgcjcffaa.Put Go.Proofs.Ytdjeekpgcjcffaa.Com Go.Proofs.YtdjeekpgcjcffaaW.PrintWords Go.Proofs.YtdjeekpgcjcffaaW.PrintLast Go.Proofs.YtdjeekpgcjcffaaW.PrintMore
def partL (told : Bool) (x : S43) : List Int := (if told = true then [(2 * (x.f3.length : Int) + 1) % 256, 6] else 6 :: putL [x.f0, x.f1, x.f2]) ++ putL x.f3
def flat (told : Bool) : List S43 → List Int
  | [] => []
  | x :: r => partL told x ++ flat told r
def isTold (dir code : Int) : Bool := decide (code = 20) && decide (dir = 1)
def lay (dir : Int) (m : Msg) : List Int := ((flat (isTold dir m.code) m.recs).length : Int) % 256 :: flat (isTold dir m.code) m.recs
theorem partL_bytes (t : Bool) (x : S43) : isBytes (partL t x) := by
  unfold partL
  refine isBytes_append ?_ (putL_bytes _)
  cases t with
  | true => rw [if_pos rfl]; intro y hy; simp only [List.mem_cons, List.not_mem_nil, or_false] at hy; rcases hy with rfl | rfl <;> omega
  | false =>
    rw [if_neg (by decide)]
    intro y hy
    rcases List.mem_cons.1 hy with rfl | hy
    · omega
    · exact putL_bytes _ y hy
theorem flat_bytes (t : Bool) : ∀ l, isBytes (flat t l)
  | [] => fun x h => by cases h
  | x :: r => isBytes_append (partL_bytes t x) (flat_bytes t r)
theorem lay_bytes {dir : Int} {m : Msg} : isBytes (lay dir m) := fun x hx => by
  rcases List.mem_cons.1 hx with rfl | hx
  · omega
  · exact flat_bytes _ _ x hx
theorem lay_len (dir : Int) (m : Msg) : (lay dir m).length = (flat (isTold dir m.code) m.recs).length + 1 := rfl
theorem partL_len (t : Bool) (x : S43) : 2 ≤ (partL t x).length ∧ 2 * x.f3.length ≤ (partL t x).length ∧ (partL t x).length ≤ 2 * x.f3.length + 7 := by
  unfold partL
  cases t <;> simp [putL_length] <;> omega
theorem flat_few (t : Bool) : ∀ l : List S43, (∀ r ∈ l, r.f3.length ≤ 200) → (flat t l).length ≤ 407 * l.length
  | [], _ => by simp [flat]
  | x :: r, h => by
    have h1 := flat_few t r (fun y hy => h y (List.mem_cons_of_mem _ hy))
    have h2 := (partL_len t x).2.2
    have h3 := h x List.mem_cons_self
    simp only [flat, List.length_append, List.length_cons]
    omega
theorem is16_3 {a b c : Int} (ha : 0 ≤ a ∧ a < 65536) (hb : 0 ≤ b ∧ b < 65536) (hc : 0 ≤ c ∧ c < 65536) : is16 [a, b, c] := fun x hx => by
  simp only [List.mem_cons, List.not_mem_nil, or_false] at hx
  rcases hx with rfl | rfl | rfl <;> assumption
theorem rd_at (l : List S43) (j : Nat) {x : S43} {r : List S43} (h : l.drop j = x :: r) : rd_T43 l (j : Int) = x ∧ l.drop (j + 1) = r ∧ j < l.length := by
  have hj : j < l.length := by
    rcases Nat.lt_or_ge j l.length with h1 | h1
    · exact h1
    · rw [List.drop_eq_nil_of_le h1] at h; cases h
  rw [List.drop_eq_getElem_cons hj] at h
  injection h with h1 h2
  refine ⟨?_, h2, hj⟩
  unfold rd_T43
  rw [Int.toNat_natCast, List.getD_eq_getElem?_getD, List.getElem?_eq_getElem hj]
  exact h1
theorem lay_loop {dir : Int} {m : Msg} : ∀ (rest : List S43) (j : Nat) (acc : List Int), (∀ r ∈ rest, goodRec r) → m.recs.drop j = rest → j ≤ acc.length → 0 < acc.length → acc.length + (flat (isTold dir m.code) rest).length ≤ 1000000 →
    Ev (fun k => files_lay.l0 k dir acc m.recs (m.recs.length : Int) (j : Int) m.code m.fail m.addr m.count m.value m.and_ m.or_ m.addr2 m.sub m.status m.events m.messages m.words m.bits m.data m.recs m.mei m.kind m.level m.more m.next m.objects) ((acc ++ flat (isTold dir m.code) rest).set 0 ((((acc ++ flat (isTold dir m.code) rest).length : Int) - 1) % 256))
  | [], j, acc, hg, hd, hj, ha, hl => by
    refine Ev.step (fun k => by rw [files_lay.l0]) ?_
    have hj : m.recs.length ≤ j := by
      rcases Nat.lt_or_ge j m.recs.length with h1 | h1
      · rw [List.drop_eq_getElem_cons h1] at hd; cases hd
      · exact h1
    have hl' : acc.length ≤ 1000000 := by simp only [flat] at hl; simpa using hl
    refine neg (by omega) (pos (by omega) (ret ?_))
    rw [wrap64_id (by omega) (by omega)]
    simp only [flat, List.append_nil]
    rfl
  | x :: r, j, acc, hg, hd, hj, ha, hl => by
    obtain ⟨e1, e2, e3⟩ := rd_at _ j hd
    obtain ⟨g0, g1, g2, g3⟩ := hg x List.mem_cons_self
    have hp := partL_len (isTold dir m.code) x
    simp only [flat, List.length_append] at hl
    have ih := lay_loop (dir := dir) (m := m) r (j + 1) (acc ++ partL (isTold dir m.code) x) (fun y hy => hg y (List.mem_cons_of_mem _ hy)) e2 (by rw [List.length_append]; omega) (by rw [List.length_append]; omega) (by rw [List.length_append]; omega)
    have q3 := put_ev x.f3 (fun y hy => g3 y hy) (by omega)
    have q1 := put_ev [x.f0, x.f1, x.f2] (is16_3 g0 g1 g2) (by simp)
    have ew : wrap64 ((j : Int) + 1) = ((j + 1 : Nat) : Int) := by rw [wrap64_id (by omega) (by omega)]; omega
    have ef : acc ++ flat (isTold dir m.code) (x :: r) = (acc ++ partL (isTold dir m.code) x) ++ flat (isTold dir m.code) r := by simp [flat]
    rw [ef]
    refine Ev.step (fun k => by rw [files_lay.l0, e1]) ?_
    refine pos (by omega) (pos (by omega) (pos (by omega) ?_))
    have J : ∀ b : Bool, b = isTold dir m.code → Ev (fun k => files_lay.j1 k dir acc m.recs (m.recs.length : Int) (j : Int) b m.code m.fail m.addr m.count m.value m.and_ m.or_ m.addr2 m.sub m.status m.events m.messages m.words m.bits m.data m.recs m.mei m.kind m.level m.more m.next m.objects x.f0 x.f1 x.f2 x.f3) (((acc ++ partL (isTold dir m.code) x) ++ flat (isTold dir m.code) r).set 0 (((((acc ++ partL (isTold dir m.code) x) ++ flat (isTold dir m.code) r).length : Int) - 1) % 256)) := by
      intro b hb
      refine Ev.step (fun k => by rw [files_lay.j1]) ?_
      cases b with
      | true =>
        refine pos rfl (bind0 rfl (pos (by simp; omega) (bind0 rfl (q3.bind (pos (by rw [putL_length]; simp; omega) ?_)))))
        have es : acc ++ [wrap64 (1 + wrap64 (2 * (x.f3.length : Int))) % 256, 6] ++ putL x.f3 = acc ++ partL (isTold dir m.code) x := by
          unfold partL
          rw [← hb, if_pos rfl, wrap64_id (x := 2 * (x.f3.length : Int)) (by omega) (by omega), wrap64_id (by omega) (by omega), Int.add_comm]
          simp
        rw [es, ew]
        exact ih
      | false =>
        refine neg (by decide) (bind0 rfl (pos (by simp; omega) (bind0 rfl (q1.bind (pos (by rw [putL_length]; simp; omega) (bind0 rfl (q3.bind (pos (by rw [putL_length]; simp [putL_length]; omega) ?_))))))))
        have es : acc ++ [6] ++ putL [x.f0, x.f1, x.f2] ++ putL x.f3 = acc ++ partL (isTold dir m.code) x := by
          unfold partL
          rw [← hb, if_neg (by decide)]
          simp
        rw [es, ew]
        exact ih
    by_cases hc : m.code = 20
    · refine pos hc (J _ ?_)
      unfold isTold
      by_cases h1 : dir = 1 <;> simp [hc, h1]
    · refine neg hc (J false ?_)
      unfold isTold
      simp [hc]
theorem lay_ev {dir : Int} {m : Msg} (hg : goodM m) (hb : (lay dir m).length ≤ 900000) (hr : m.recs.length ≤ 900000) : Ev (fun k => files_lay.f k dir m.code m.fail m.addr m.count m.value m.and_ m.or_ m.addr2 m.sub m.status m.events m.messages m.words m.bits m.data m.recs m.mei m.kind m.level m.more m.next m.objects) (lay dir m) := by
  rw [lay_len] at hb
  have := lay_loop (dir := dir) (m := m) m.recs 0 [0] hg.2.2.1 (by simp) (by simp) (by simp) (by simp; omega)
  have e : (([0] ++ flat (isTold dir m.code) m.recs).set 0 (((([0] ++ flat (isTold dir m.code) m.recs).length : Int) - 1) % 256)) = lay dir m := by
    unfold lay
    simp
  rw [e] at this
  exact this
theorem lay_c {dir : Int} {m : Msg} {cx : Array Value} {w : World} (hm : IsMsg w cx m) (hb : (lay dir m).length ≤ 900000) (hr : m.recs.length ≤ 900000) : Calls Try.prog 31 #[.int .i64 dir, .agg cx] w fun en w' => ∃ A c, en = .returned (.slice A (lay dir m).length c) ∧ (lay dir m).length ≤ c ∧ Kd.C (Kd.int .u8) w' A (lay dir m).length (lay dir m) ∧ Below w.heap.size w w' := by
  obtain ⟨k, hk⟩ := (lay_ev (dir := dir) hm.good hb hr).rounds
  obtain ⟨A12, c12, A13, c13, A14, c14, A15, c15, A21, c21, rfl, ok, ⟨hr12, hc12⟩, ⟨hr13, hc13⟩, ⟨hr14, hc14⟩, ⟨hr15, hc15⟩, ⟨hr21, hc21⟩⟩ := hm
  refine (files_lay.calls k dir _ _ _ _ _ _ _ _ _ _ _ _ A12 c12 m.words A13 c13 m.bits A14 c14 m.data A15 c15 m.recs _ _ _ _ _ A21 c21 m.objects _ w hr12 hc12 hr13 hc13 hr14 hc14 hr15 hc15 hr21 hc21 hk).mono ?_
  rintro en w' ⟨v, rfl, R, B⟩
  obtain ⟨A2, c2, rfl, h2, h3⟩ := Kd.R_reads R
  exact ⟨A2, c2, rfl, h2, h3, B⟩
theorem parse_c {dir code : Int} {l : List Int} (hs : l.length ≤ 1000000) (hb : isBytes l) : ParseC 12 dir code l (parse dir code l) := fun A c W hr hc2 => parse_any hr hc2 hs hb
def write (dir : Int) (m : Msg) : List Int × Int := writeR m (lay dir m) (parse dir m.code (lay dir m))
theorem write_c {dir : Int} {m : Msg} (hb : (lay dir m).length ≤ 900000) (hr : m.recs.length ≤ 900000) : WriteC 16 dir m (write dir m) := write_of (fun cx W hm => lay_c hm hb hr) (parse_c (by omega) lay_bytes)
end Go.Proofs.Ytdjeekpgcjcffaa.Fil
end
