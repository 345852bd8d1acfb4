/- What the laws of this chapter rest on, part 4: what the functions that they reach answer, each shown once. Conditions: what each theorem states. (Merged by a program of this session, wip/tools/merge.py, out of its own texts and of the words that the kit's print wrote for this seat, cut to those that are used.) -/
import Derived.Deep.Slices
import Derived.Deep.Fields
import Derived.ChangeArms
import Derived.Test.YtmglilncdffbkaaYC
set_option linter.unusedVariables false
set_option linter.unusedSimpArgs false
set_option maxHeartbeats 16000000
set_option maxRecDepth 100000
section
namespace Go.Proofs.Ytmglilncdffbkaa.Reg
open Go.RowKit Go.Proofs.Ytmglilncdffbkaa.P Go.Proofs.Ytmglilncdffbkaa.E Go.Proofs.Ytmglilncdffbkaa.Same Go.Proofs.Ytmglilncdffbkaa.Put Go.Proofs.Ytmglilncdffbkaa.Com Go.Proofs.YtmglilncdffbkaaW.PrintWords Go.Proofs.YtmglilncdffbkaaW.PrintLast Go.Proofs.YtmglilncdffbkaaW.PrintMore
def sz (m : Msg) : List Int := [(2 * (m.words.length : Int)) % 256]
def told (m : Msg) : List Int := sz m ++ putL m.words
def lay (dir : Int) (m : Msg) : List Int :=
  if dir ≠ 0 ∧ (m.code = 3 ∨ m.code = 4 ∨ m.code = 23) then told m else if m.code = 6 then putL [m.addr, m.value] else if m.code = 22 then putL [m.addr, m.and_, m.or_] else if m.code = 16 ∧ dir = 0 then putL [m.addr, m.count] ++ told m else
  if m.code = 23 then putL [m.addr, m.count, m.addr2, (m.words.length : Int) % 65536] ++ told m else if m.code = 24 ∧ dir = 0 then putL [m.addr] else if m.code = 24 then putL [(2 + 2 * (m.words.length : Int)) % 65536, (m.words.length : Int) % 65536] ++ putL m.words else putL [m.addr, m.count]
theorem is16_1 {a : Int} (ha : 0 ≤ a ∧ a < 65536) : is16 [a] := fun x hx => by
  rw [List.mem_singleton.1 hx]; exact ha
theorem is16_3 {a b c : Int} (ha : 0 ≤ a ∧ a < 65536) (hb : 0 ≤ b ∧ b < 65536) (hc : 0 ≤ c ∧ c < 65536) : is16 [a, b, c] := fun x hx => by
  simp only [List.mem_cons, List.not_mem_nil, or_false] at hx
  rcases hx with rfl | rfl | rfl <;> assumption
theorem is16_cons {a : Int} {l : List Int} (ha : 0 ≤ a ∧ a < 65536) (h : is16 l) : is16 (a :: l) := fun x hx => by
  rcases List.mem_cons.1 hx with rfl | hx
  · exact ha
  · exact h x hx
theorem put_r {ws : List Int} {n : Nat} (hn : ws.length = n) (h : is16 ws) (hl : ws.length ≤ 1000000) {A : Option Addr} {c : Nat} {w : World} (hr : Kd.C (Kd.int .u16) w A n ws) (hc : n ≤ c) : Calls Try.prog 55 #[.slice A n c] w fun en w' => ∃ v, en = .returned v ∧ Kd.R (Kd.int .u8) 5 w' w.heap.size (fun _ => True) v (putL ws) ∧ Below w.heap.size w w' := by
  subst hn
  obtain ⟨k, hk⟩ := (put_ev ws h hl).rounds
  exact word_Put.calls k A c ws _ w hr hc hk
theorem put_b {ws : List Int} {n : Nat} (hn : ws.length = n) (h : is16 ws) (hl : ws.length ≤ 1000000) {A : Option Addr} {c : Nat} {w : World} (hr : Kd.C (Kd.int .u16) w A n ws) (hc : n ≤ c) : Calls Try.prog 55 #[.slice A n c] w fun en w' => ∃ A c, en = .returned (.slice A (putL ws).length c) ∧ (putL ws).length ≤ c ∧ Kd.C (Kd.int .u8) w' A (putL ws).length (putL ws) ∧ Below w.heap.size w w' := by
  refine (put_r hn h hl hr hc).mono ?_
  rintro en w' ⟨v, rfl, R, B⟩
  obtain ⟨A, c, rfl, hz, hr⟩ := Kd.R_reads R
  exact ⟨A, c, rfl, hz, hr, B⟩
theorem is16_4 {a b c d : Int} (ha : 0 ≤ a ∧ a < 65536) (hb : 0 ≤ b ∧ b < 65536) (hc : 0 ≤ c ∧ c < 65536) (hd : 0 ≤ d ∧ d < 65536) : is16 [a, b, c, d] := is16_cons ha (is16_3 hb hc hd)
theorem told_len (m : Msg) : (told m).length = 1 + 2 * m.words.length := by
  unfold told sz
  rw [List.length_append, putL_length]
  rfl
theorem nums_of {m : Msg} (hw : m.words.length ≤ 400000) : wrap64 (2 * (m.words.length : Int)) = 2 * (m.words.length : Int) ∧ wrap64 (2 + 2 * (m.words.length : Int)) = 2 + 2 * (m.words.length : Int) ∧ wrap64 (2 * (m.words.length : Int) + 2) = 2 * (m.words.length : Int) + 2 ∧ IntKind.u8.wrap (2 * (m.words.length : Int)) = (2 * (m.words.length : Int)) % 256 ∧ IntKind.u16.wrap (m.words.length : Int) = (m.words.length : Int) % 65536 ∧ IntKind.u16.wrap (2 + 2 * (m.words.length : Int)) = (2 + 2 * (m.words.length : Int)) % 65536 ∧ IntKind.u16.wrap (2 * (m.words.length : Int) + 2) = (2 + 2 * (m.words.length : Int)) % 65536 :=
  ⟨wrap64_id (by omega) (by omega), wrap64_id (by omega) (by omega), wrap64_id (by omega) (by omega), by rw [IntKind.wrap_u8], by rw [IntKind.wrap_u16], by rw [IntKind.wrap_u16], by rw [IntKind.wrap_u16]; congr 1; omega⟩
theorem codes_3 {m : Msg} (hk : m.code = 3) : (m.code == 3) = true ∧ (m.code == 4) = false ∧ (m.code == 6) = false ∧ (m.code == 16) = false ∧ (m.code == 22) = false ∧ (m.code == 23) = false ∧ (m.code == 24) = false := ⟨beq_iff_eq.2 hk, beq_eq_false_iff_ne.2 (by omega), beq_eq_false_iff_ne.2 (by omega), beq_eq_false_iff_ne.2 (by omega), beq_eq_false_iff_ne.2 (by omega), beq_eq_false_iff_ne.2 (by omega), beq_eq_false_iff_ne.2 (by omega)⟩
theorem codes_4 {m : Msg} (hk : m.code = 4) : (m.code == 3) = false ∧ (m.code == 4) = true ∧ (m.code == 6) = false ∧ (m.code == 16) = false ∧ (m.code == 22) = false ∧ (m.code == 23) = false ∧ (m.code == 24) = false := ⟨beq_eq_false_iff_ne.2 (by omega), beq_iff_eq.2 hk, beq_eq_false_iff_ne.2 (by omega), beq_eq_false_iff_ne.2 (by omega), beq_eq_false_iff_ne.2 (by omega), beq_eq_false_iff_ne.2 (by omega), beq_eq_false_iff_ne.2 (by omega)⟩
theorem codes_6 {m : Msg} (hk : m.code = 6) : (m.code == 3) = false ∧ (m.code == 4) = false ∧ (m.code == 6) = true ∧ (m.code == 16) = false ∧ (m.code == 22) = false ∧ (m.code == 23) = false ∧ (m.code == 24) = false := ⟨beq_eq_false_iff_ne.2 (by omega), beq_eq_false_iff_ne.2 (by omega), beq_iff_eq.2 hk, beq_eq_false_iff_ne.2 (by omega), beq_eq_false_iff_ne.2 (by omega), beq_eq_false_iff_ne.2 (by omega), beq_eq_false_iff_ne.2 (by omega)⟩
theorem codes_16 {m : Msg} (hk : m.code = 16) : (m.code == 3) = false ∧ (m.code == 4) = false ∧ (m.code == 6) = false ∧ (m.code == 16) = true ∧ (m.code == 22) = false ∧ (m.code == 23) = false ∧ (m.code == 24) = false := ⟨beq_eq_false_iff_ne.2 (by omega), beq_eq_false_iff_ne.2 (by omega), beq_eq_false_iff_ne.2 (by omega), beq_iff_eq.2 hk, beq_eq_false_iff_ne.2 (by omega), beq_eq_false_iff_ne.2 (by omega), beq_eq_false_iff_ne.2 (by omega)⟩
theorem codes_22 {m : Msg} (hk : m.code = 22) : (m.code == 3) = false ∧ (m.code == 4) = false ∧ (m.code == 6) = false ∧ (m.code == 16) = false ∧ (m.code == 22) = true ∧ (m.code == 23) = false ∧ (m.code == 24) = false := ⟨beq_eq_false_iff_ne.2 (by omega), beq_eq_false_iff_ne.2 (by omega), beq_eq_false_iff_ne.2 (by omega), beq_eq_false_iff_ne.2 (by omega), beq_iff_eq.2 hk, beq_eq_false_iff_ne.2 (by omega), beq_eq_false_iff_ne.2 (by omega)⟩
theorem codes_23 {m : Msg} (hk : m.code = 23) : (m.code == 3) = false ∧ (m.code == 4) = false ∧ (m.code == 6) = false ∧ (m.code == 16) = false ∧ (m.code == 22) = false ∧ (m.code == 23) = true ∧ (m.code == 24) = false := ⟨beq_eq_false_iff_ne.2 (by omega), beq_eq_false_iff_ne.2 (by omega), beq_eq_false_iff_ne.2 (by omega), beq_eq_false_iff_ne.2 (by omega), beq_eq_false_iff_ne.2 (by omega), beq_iff_eq.2 hk, beq_eq_false_iff_ne.2 (by omega)⟩
theorem codes_24 {m : Msg} (hk : m.code = 24) : (m.code == 3) = false ∧ (m.code == 4) = false ∧ (m.code == 6) = false ∧ (m.code == 16) = false ∧ (m.code == 22) = false ∧ (m.code == 23) = false ∧ (m.code == 24) = true := ⟨beq_eq_false_iff_ne.2 (by omega), beq_eq_false_iff_ne.2 (by omega), beq_eq_false_iff_ne.2 (by omega), beq_eq_false_iff_ne.2 (by omega), beq_eq_false_iff_ne.2 (by omega), beq_eq_false_iff_ne.2 (by omega), beq_iff_eq.2 hk⟩
theorem codes_no {m : Msg} (hk : m.code ≠ 3 ∧ m.code ≠ 4 ∧ m.code ≠ 6 ∧ m.code ≠ 16 ∧ m.code ≠ 22 ∧ m.code ≠ 23 ∧ m.code ≠ 24) : (m.code == 3) = false ∧ (m.code == 4) = false ∧ (m.code == 6) = false ∧ (m.code == 16) = false ∧ (m.code == 22) = false ∧ (m.code == 23) = false ∧ (m.code == 24) = false := ⟨beq_eq_false_iff_ne.2 (by omega), beq_eq_false_iff_ne.2 (by omega), beq_eq_false_iff_ne.2 (by omega), beq_eq_false_iff_ne.2 (by omega), beq_eq_false_iff_ne.2 (by omega), beq_eq_false_iff_ne.2 (by omega), beq_eq_false_iff_ne.2 (by omega)⟩
theorem dirs_0 {dir : Int} (hd : dir = 0) : (dir == 0) = true ∧ (dir == 1) = false := ⟨beq_iff_eq.2 hd, beq_eq_false_iff_ne.2 (by omega)⟩
theorem dirs_2 {dir : Int} (hd : dir ≠ 0) : (dir == 0) = false := beq_eq_false_iff_ne.2 hd
theorem lay_3_0 {dir : Int} {m : Msg} {cx : Array Value} {w : World} (hm : IsMsg w cx m) (hw : m.words.length ≤ 400000) (hk : m.code = 3) (hd : dir = 0) :
    Calls Try.prog 32 #[.int .i64 dir, .agg cx] w fun en w' => ∃ A c, en = .returned (.slice A (lay dir m).length c) ∧ (lay dir m).length ≤ c ∧ Kd.C (Kd.int .u8) w' A (lay dir m).length (lay dir m) ∧ Below w.heap.size w w' := by
  obtain ⟨⟨a0, a1, a2, a3, a4, a5, a6, a7, a8, a9, a10, a11, _⟩, adt, _⟩ := goodM_num hm.good
  have hws : is16 m.words := hm.good.2.1
  have H := Aside0.mk (Hd.start w)
  have hsz := hm.size
  have hix := msg_info hsz
  have n0_ := Aside0.mk ((((H.out.on (below_alloc (Below.refl _ _) (Obj.cells cx 30)))).add (sta_blk _ _) (blk_new _ _)).add (sta_msg _ _) (hm.on (below_alloc (Below.refl _ _) _)))
  clear H
  have H := n0_
  clear n0_
  obtain ⟨b3, b4, b6, b16, b22, b23, b24⟩ := codes_3 hk
  obtain ⟨d0, d1⟩ := dirs_0 hd
  have EX : Aside0 (lay dir m = putL [m.addr, m.count]) := ⟨by unfold lay; (repeat' split) <;> first | rfl | (exfalso; omega)⟩
  obtain ⟨A12, c12, A13, c13, A14, c14, A15, c15, A21, c21, ⟨l12, _, l14, _, _⟩, ⟨r12, q12⟩, _, ⟨r14, q14⟩, _, _⟩ := IsMsg.lists H.out.f.2
  have kw := (blk_cell H.out.f.1.2 12).trans l12
  have kcode := bx_code H.out.f.1.2 H.out.f.2
  have kaddr := bx_addr H.out.f.1.2 H.out.f.2
  have kcount := bx_count H.out.f.1.2 H.out.f.2
  have n0_ := Aside0.mk ((H.out).add (sta_C _ _ _ _) (r12))
  clear H
  have H := n0_
  clear n0_
  have QW := Aside0.mk q12
  clear l12 r12 q12 l14 r14 q14
  obtain ⟨w2, w3, w4, u8_, u16a, u16b, u16c⟩ := nums_of hw
  have HA := Aside0.mk (And.intro a2 (And.intro a3 (And.intro a4 (And.intro a5 (And.intro a6 a7)))))
  have HWS := Aside0.mk hws
  have HWL := Aside0.mk hw
  clear a0 a1 a2 a3 a4 a5 a6 a7 a8 a9 a10 a11 adt hws hm hk hd
  go_enter Try.func32, Try.ntmps32
  go_upto_region 2 with (fail)
  go_upto_region 3 with (first | ((with_reducible refine gate_dst (N := 16) rfl ?_); (try (refine gate_guard (by rfl) ?_; dsimp only)); refine ev_lit .u8 [(2 * (m.words.length : Int)) % 256] 5 rfl (by first | (go_simp; done) | (go_simp; rfl)) (by simp) ?_; intro As cs wls bs he_ hr_ hz_ hb_; have Zs := Aside0.mk hz_; have Es := Aside0.mk he_; have n0_ := Aside0.mk ((H.out.on hb_).add (sta_C _ _ _ _) (hr_)); clear H; have H := n0_; clear n0_; have n0_ := (hb_.cell (World.block_lt_of_cell? _ _ kw)).trans kw; clear kw; have kw := n0_; clear n0_; have n0_ := (hb_.cell (World.block_lt_of_cell? _ _ kcode)).trans kcode; clear kcode; have kcode := n0_; clear n0_; have n0_ := (hb_.cell (World.block_lt_of_cell? _ _ kaddr)).trans kaddr; clear kaddr; have kaddr := n0_; clear n0_; have n0_ := (hb_.cell (World.block_lt_of_cell? _ _ kcount)).trans kcount; clear kcount; have kcount := n0_; clear n0_; clear hr_ hz_ hb_ he_) | (go_at_call 55; (with_reducible refine (put_b (ws := m.words) rfl HWS.out (by have := HWL.out; omega) H.out.f.1.2 QW.out).mono ?_); rintro en wqp ⟨Aqp, cqp, rfl, hz_, hr_, hb_⟩; have n0_ := (hb_.cell (World.block_lt_of_cell? _ _ kw)).trans kw; clear kw; have kw := n0_; clear n0_; have n0_ := (hb_.cell (World.block_lt_of_cell? _ _ kcode)).trans kcode; clear kcode; have kcode := n0_; clear n0_; have n0_ := (hb_.cell (World.block_lt_of_cell? _ _ kaddr)).trans kaddr; clear kaddr; have kaddr := n0_; clear n0_; have n0_ := (hb_.cell (World.block_lt_of_cell? _ _ kcount)).trans kcount; clear kcount; have kcount := n0_; clear n0_; have n0_ := Aside0.mk ((H.out.on hb_).add (sta_C _ _ _ _) (hr_)); clear H; have H := n0_; clear n0_; have Zp := Aside0.mk hz_; clear hb_ hz_ hr_))
  go_upto_region 19 with (fail)
  go_wp2_with (first | ((with_reducible refine gate_dst (N := 122) rfl ?_); (try (refine gate_guard (by rfl) ?_; dsimp only)); refine ev_lit .u16 [m.addr, m.count] 24 rfl (by first | (go_simp; done) | (go_simp; rfl)) (by simp) ?_; intro Ah ch wlh bh he_ hr_ hz_ hb_; have Zh := Aside0.mk hz_; have Eh := Aside0.mk he_; have n0_ := Aside0.mk ((H.out.on hb_).add (sta_C _ _ _ _) (hr_)); clear H; have H := n0_; clear n0_; have n0_ := (hb_.cell (World.block_lt_of_cell? _ _ kw)).trans kw; clear kw; have kw := n0_; clear n0_; have n0_ := (hb_.cell (World.block_lt_of_cell? _ _ kcode)).trans kcode; clear kcode; have kcode := n0_; clear n0_; have n0_ := (hb_.cell (World.block_lt_of_cell? _ _ kaddr)).trans kaddr; clear kaddr; have kaddr := n0_; clear n0_; have n0_ := (hb_.cell (World.block_lt_of_cell? _ _ kcount)).trans kcount; clear kcount; have kcount := n0_; clear n0_; clear hr_ hz_ hb_ he_) | (go_at_call 55; (with_reducible refine (put_b (ws := bh) rfl (by rw [Eh.out]; exact is16_2 HA.out.1 HA.out.2.1) (by rw [Eh.out]; simp) H.out.f.2 Zh.out).mono ?_); rintro en wqq ⟨Aqq, cqq, rfl, hz_, hr_, hb_⟩; have n0_ := (hb_.cell (World.block_lt_of_cell? _ _ kw)).trans kw; clear kw; have kw := n0_; clear n0_; have n0_ := (hb_.cell (World.block_lt_of_cell? _ _ kcode)).trans kcode; clear kcode; have kcode := n0_; clear n0_; have n0_ := (hb_.cell (World.block_lt_of_cell? _ _ kaddr)).trans kaddr; clear kaddr; have kaddr := n0_; clear n0_; have n0_ := (hb_.cell (World.block_lt_of_cell? _ _ kcount)).trans kcount; clear kcount; have kcount := n0_; clear n0_; have n0_ := Aside0.mk ((H.out.on hb_).add (sta_C _ _ _ _) (hr_)); clear H; have H := n0_; clear n0_; have Zq := Aside0.mk hz_; clear hb_ hz_ hr_))
  go_ret
  rw [EX.out, ← Eh.out]
  exact ⟨Aqq, cqq, rfl, Zq.out, H.out.f.2, H.out.b⟩
theorem lay_4_0 {dir : Int} {m : Msg} {cx : Array Value} {w : World} (hm : IsMsg w cx m) (hw : m.words.length ≤ 400000) (hk : m.code = 4) (hd : dir = 0) :
    Calls Try.prog 32 #[.int .i64 dir, .agg cx] w fun en w' => ∃ A c, en = .returned (.slice A (lay dir m).length c) ∧ (lay dir m).length ≤ c ∧ Kd.C (Kd.int .u8) w' A (lay dir m).length (lay dir m) ∧ Below w.heap.size w w' := by
  obtain ⟨⟨a0, a1, a2, a3, a4, a5, a6, a7, a8, a9, a10, a11, _⟩, adt, _⟩ := goodM_num hm.good
  have hws : is16 m.words := hm.good.2.1
  have H := Aside0.mk (Hd.start w)
  have hsz := hm.size
  have hix := msg_info hsz
  have n0_ := Aside0.mk ((((H.out.on (below_alloc (Below.refl _ _) (Obj.cells cx 30)))).add (sta_blk _ _) (blk_new _ _)).add (sta_msg _ _) (hm.on (below_alloc (Below.refl _ _) _)))
  clear H
  have H := n0_
  clear n0_
  obtain ⟨b3, b4, b6, b16, b22, b23, b24⟩ := codes_4 hk
  obtain ⟨d0, d1⟩ := dirs_0 hd
  have EX : Aside0 (lay dir m = putL [m.addr, m.count]) := ⟨by unfold lay; (repeat' split) <;> first | rfl | (exfalso; omega)⟩
  obtain ⟨A12, c12, A13, c13, A14, c14, A15, c15, A21, c21, ⟨l12, _, l14, _, _⟩, ⟨r12, q12⟩, _, ⟨r14, q14⟩, _, _⟩ := IsMsg.lists H.out.f.2
  have kw := (blk_cell H.out.f.1.2 12).trans l12
  have kcode := bx_code H.out.f.1.2 H.out.f.2
  have kaddr := bx_addr H.out.f.1.2 H.out.f.2
  have kcount := bx_count H.out.f.1.2 H.out.f.2
  have n0_ := Aside0.mk ((H.out).add (sta_C _ _ _ _) (r12))
  clear H
  have H := n0_
  clear n0_
  have QW := Aside0.mk q12
  clear l12 r12 q12 l14 r14 q14
  obtain ⟨w2, w3, w4, u8_, u16a, u16b, u16c⟩ := nums_of hw
  have HA := Aside0.mk (And.intro a2 (And.intro a3 (And.intro a4 (And.intro a5 (And.intro a6 a7)))))
  have HWS := Aside0.mk hws
  have HWL := Aside0.mk hw
  clear a0 a1 a2 a3 a4 a5 a6 a7 a8 a9 a10 a11 adt hws hm hk hd
  go_enter Try.func32, Try.ntmps32
  go_upto_region 2 with (fail)
  go_upto_region 3 with (first | ((with_reducible refine gate_dst (N := 16) rfl ?_); (try (refine gate_guard (by rfl) ?_; dsimp only)); refine ev_lit .u8 [(2 * (m.words.length : Int)) % 256] 5 rfl (by first | (go_simp; done) | (go_simp; rfl)) (by simp) ?_; intro As cs wls bs he_ hr_ hz_ hb_; have Zs := Aside0.mk hz_; have Es := Aside0.mk he_; have n0_ := Aside0.mk ((H.out.on hb_).add (sta_C _ _ _ _) (hr_)); clear H; have H := n0_; clear n0_; have n0_ := (hb_.cell (World.block_lt_of_cell? _ _ kw)).trans kw; clear kw; have kw := n0_; clear n0_; have n0_ := (hb_.cell (World.block_lt_of_cell? _ _ kcode)).trans kcode; clear kcode; have kcode := n0_; clear n0_; have n0_ := (hb_.cell (World.block_lt_of_cell? _ _ kaddr)).trans kaddr; clear kaddr; have kaddr := n0_; clear n0_; have n0_ := (hb_.cell (World.block_lt_of_cell? _ _ kcount)).trans kcount; clear kcount; have kcount := n0_; clear n0_; clear hr_ hz_ hb_ he_) | (go_at_call 55; (with_reducible refine (put_b (ws := m.words) rfl HWS.out (by have := HWL.out; omega) H.out.f.1.2 QW.out).mono ?_); rintro en wqp ⟨Aqp, cqp, rfl, hz_, hr_, hb_⟩; have n0_ := (hb_.cell (World.block_lt_of_cell? _ _ kw)).trans kw; clear kw; have kw := n0_; clear n0_; have n0_ := (hb_.cell (World.block_lt_of_cell? _ _ kcode)).trans kcode; clear kcode; have kcode := n0_; clear n0_; have n0_ := (hb_.cell (World.block_lt_of_cell? _ _ kaddr)).trans kaddr; clear kaddr; have kaddr := n0_; clear n0_; have n0_ := (hb_.cell (World.block_lt_of_cell? _ _ kcount)).trans kcount; clear kcount; have kcount := n0_; clear n0_; have n0_ := Aside0.mk ((H.out.on hb_).add (sta_C _ _ _ _) (hr_)); clear H; have H := n0_; clear n0_; have Zp := Aside0.mk hz_; clear hb_ hz_ hr_))
  go_upto_region 19 with (fail)
  go_wp2_with (first | ((with_reducible refine gate_dst (N := 122) rfl ?_); (try (refine gate_guard (by rfl) ?_; dsimp only)); refine ev_lit .u16 [m.addr, m.count] 24 rfl (by first | (go_simp; done) | (go_simp; rfl)) (by simp) ?_; intro Ah ch wlh bh he_ hr_ hz_ hb_; have Zh := Aside0.mk hz_; have Eh := Aside0.mk he_; have n0_ := Aside0.mk ((H.out.on hb_).add (sta_C _ _ _ _) (hr_)); clear H; have H := n0_; clear n0_; have n0_ := (hb_.cell (World.block_lt_of_cell? _ _ kw)).trans kw; clear kw; have kw := n0_; clear n0_; have n0_ := (hb_.cell (World.block_lt_of_cell? _ _ kcode)).trans kcode; clear kcode; have kcode := n0_; clear n0_; have n0_ := (hb_.cell (World.block_lt_of_cell? _ _ kaddr)).trans kaddr; clear kaddr; have kaddr := n0_; clear n0_; have n0_ := (hb_.cell (World.block_lt_of_cell? _ _ kcount)).trans kcount; clear kcount; have kcount := n0_; clear n0_; clear hr_ hz_ hb_ he_) | (go_at_call 55; (with_reducible refine (put_b (ws := bh) rfl (by rw [Eh.out]; exact is16_2 HA.out.1 HA.out.2.1) (by rw [Eh.out]; simp) H.out.f.2 Zh.out).mono ?_); rintro en wqq ⟨Aqq, cqq, rfl, hz_, hr_, hb_⟩; have n0_ := (hb_.cell (World.block_lt_of_cell? _ _ kw)).trans kw; clear kw; have kw := n0_; clear n0_; have n0_ := (hb_.cell (World.block_lt_of_cell? _ _ kcode)).trans kcode; clear kcode; have kcode := n0_; clear n0_; have n0_ := (hb_.cell (World.block_lt_of_cell? _ _ kaddr)).trans kaddr; clear kaddr; have kaddr := n0_; clear n0_; have n0_ := (hb_.cell (World.block_lt_of_cell? _ _ kcount)).trans kcount; clear kcount; have kcount := n0_; clear n0_; have n0_ := Aside0.mk ((H.out.on hb_).add (sta_C _ _ _ _) (hr_)); clear H; have H := n0_; clear n0_; have Zq := Aside0.mk hz_; clear hb_ hz_ hr_))
  go_ret
  rw [EX.out, ← Eh.out]
  exact ⟨Aqq, cqq, rfl, Zq.out, H.out.f.2, H.out.b⟩
theorem lay_6_0 {dir : Int} {m : Msg} {cx : Array Value} {w : World} (hm : IsMsg w cx m) (hw : m.words.length ≤ 400000) (hk : m.code = 6) (hd : dir = 0) :
    Calls Try.prog 32 #[.int .i64 dir, .agg cx] w fun en w' => ∃ A c, en = .returned (.slice A (lay dir m).length c) ∧ (lay dir m).length ≤ c ∧ Kd.C (Kd.int .u8) w' A (lay dir m).length (lay dir m) ∧ Below w.heap.size w w' := by
  obtain ⟨⟨a0, a1, a2, a3, a4, a5, a6, a7, a8, a9, a10, a11, _⟩, adt, _⟩ := goodM_num hm.good
  have hws : is16 m.words := hm.good.2.1
  have H := Aside0.mk (Hd.start w)
  have hsz := hm.size
  have hix := msg_info hsz
  have n0_ := Aside0.mk ((((H.out.on (below_alloc (Below.refl _ _) (Obj.cells cx 30)))).add (sta_blk _ _) (blk_new _ _)).add (sta_msg _ _) (hm.on (below_alloc (Below.refl _ _) _)))
  clear H
  have H := n0_
  clear n0_
  obtain ⟨b3, b4, b6, b16, b22, b23, b24⟩ := codes_6 hk
  obtain ⟨d0, d1⟩ := dirs_0 hd
  have EX : Aside0 (lay dir m = putL [m.addr, m.value]) := ⟨by unfold lay; (repeat' split) <;> first | rfl | (exfalso; omega)⟩
  obtain ⟨A12, c12, A13, c13, A14, c14, A15, c15, A21, c21, ⟨l12, _, l14, _, _⟩, ⟨r12, q12⟩, _, ⟨r14, q14⟩, _, _⟩ := IsMsg.lists H.out.f.2
  have kw := (blk_cell H.out.f.1.2 12).trans l12
  have kcode := bx_code H.out.f.1.2 H.out.f.2
  have kaddr := bx_addr H.out.f.1.2 H.out.f.2
  have kvalue := bx_value H.out.f.1.2 H.out.f.2
  have n0_ := Aside0.mk ((H.out).add (sta_C _ _ _ _) (r12))
  clear H
  have H := n0_
  clear n0_
  have QW := Aside0.mk q12
  clear l12 r12 q12 l14 r14 q14
  obtain ⟨w2, w3, w4, u8_, u16a, u16b, u16c⟩ := nums_of hw
  have HA := Aside0.mk (And.intro a2 (And.intro a3 (And.intro a4 (And.intro a5 (And.intro a6 a7)))))
  have HWS := Aside0.mk hws
  have HWL := Aside0.mk hw
  clear a0 a1 a2 a3 a4 a5 a6 a7 a8 a9 a10 a11 adt hws hm hk hd
  go_enter Try.func32, Try.ntmps32
  go_upto_region 2 with (fail)
  go_upto_region 3 with (first | ((with_reducible refine gate_dst (N := 16) rfl ?_); (try (refine gate_guard (by rfl) ?_; dsimp only)); refine ev_lit .u8 [(2 * (m.words.length : Int)) % 256] 5 rfl (by first | (go_simp; done) | (go_simp; rfl)) (by simp) ?_; intro As cs wls bs he_ hr_ hz_ hb_; have Zs := Aside0.mk hz_; have Es := Aside0.mk he_; have n0_ := Aside0.mk ((H.out.on hb_).add (sta_C _ _ _ _) (hr_)); clear H; have H := n0_; clear n0_; have n0_ := (hb_.cell (World.block_lt_of_cell? _ _ kw)).trans kw; clear kw; have kw := n0_; clear n0_; have n0_ := (hb_.cell (World.block_lt_of_cell? _ _ kcode)).trans kcode; clear kcode; have kcode := n0_; clear n0_; have n0_ := (hb_.cell (World.block_lt_of_cell? _ _ kaddr)).trans kaddr; clear kaddr; have kaddr := n0_; clear n0_; have n0_ := (hb_.cell (World.block_lt_of_cell? _ _ kvalue)).trans kvalue; clear kvalue; have kvalue := n0_; clear n0_; clear hr_ hz_ hb_ he_) | (go_at_call 55; (with_reducible refine (put_b (ws := m.words) rfl HWS.out (by have := HWL.out; omega) H.out.f.1.2 QW.out).mono ?_); rintro en wqp ⟨Aqp, cqp, rfl, hz_, hr_, hb_⟩; have n0_ := (hb_.cell (World.block_lt_of_cell? _ _ kw)).trans kw; clear kw; have kw := n0_; clear n0_; have n0_ := (hb_.cell (World.block_lt_of_cell? _ _ kcode)).trans kcode; clear kcode; have kcode := n0_; clear n0_; have n0_ := (hb_.cell (World.block_lt_of_cell? _ _ kaddr)).trans kaddr; clear kaddr; have kaddr := n0_; clear n0_; have n0_ := (hb_.cell (World.block_lt_of_cell? _ _ kvalue)).trans kvalue; clear kvalue; have kvalue := n0_; clear n0_; have n0_ := Aside0.mk ((H.out.on hb_).add (sta_C _ _ _ _) (hr_)); clear H; have H := n0_; clear n0_; have Zp := Aside0.mk hz_; clear hb_ hz_ hr_))
  go_upto_region 8 with (fail)
  go_wp2_with (first | ((with_reducible refine gate_dst (N := 49) rfl ?_); (try (refine gate_guard (by rfl) ?_; dsimp only)); refine ev_lit .u16 [m.addr, m.value] 24 rfl (by first | (go_simp; done) | (go_simp; rfl)) (by simp) ?_; intro Ah ch wlh bh he_ hr_ hz_ hb_; have Zh := Aside0.mk hz_; have Eh := Aside0.mk he_; have n0_ := Aside0.mk ((H.out.on hb_).add (sta_C _ _ _ _) (hr_)); clear H; have H := n0_; clear n0_; have n0_ := (hb_.cell (World.block_lt_of_cell? _ _ kw)).trans kw; clear kw; have kw := n0_; clear n0_; have n0_ := (hb_.cell (World.block_lt_of_cell? _ _ kcode)).trans kcode; clear kcode; have kcode := n0_; clear n0_; have n0_ := (hb_.cell (World.block_lt_of_cell? _ _ kaddr)).trans kaddr; clear kaddr; have kaddr := n0_; clear n0_; have n0_ := (hb_.cell (World.block_lt_of_cell? _ _ kvalue)).trans kvalue; clear kvalue; have kvalue := n0_; clear n0_; clear hr_ hz_ hb_ he_) | (go_at_call 55; (with_reducible refine (put_b (ws := bh) rfl (by rw [Eh.out]; exact is16_2 HA.out.1 HA.out.2.2.1) (by rw [Eh.out]; simp) H.out.f.2 Zh.out).mono ?_); rintro en wqq ⟨Aqq, cqq, rfl, hz_, hr_, hb_⟩; have n0_ := (hb_.cell (World.block_lt_of_cell? _ _ kw)).trans kw; clear kw; have kw := n0_; clear n0_; have n0_ := (hb_.cell (World.block_lt_of_cell? _ _ kcode)).trans kcode; clear kcode; have kcode := n0_; clear n0_; have n0_ := (hb_.cell (World.block_lt_of_cell? _ _ kaddr)).trans kaddr; clear kaddr; have kaddr := n0_; clear n0_; have n0_ := (hb_.cell (World.block_lt_of_cell? _ _ kvalue)).trans kvalue; clear kvalue; have kvalue := n0_; clear n0_; have n0_ := Aside0.mk ((H.out.on hb_).add (sta_C _ _ _ _) (hr_)); clear H; have H := n0_; clear n0_; have Zq := Aside0.mk hz_; clear hb_ hz_ hr_))
  go_ret
  rw [EX.out, ← Eh.out]
  exact ⟨Aqq, cqq, rfl, Zq.out, H.out.f.2, H.out.b⟩
theorem lay_16_0 {dir : Int} {m : Msg} {cx : Array Value} {w : World} (hm : IsMsg w cx m) (hw : m.words.length ≤ 400000) (hk : m.code = 16) (hd : dir = 0) :
    Calls Try.prog 32 #[.int .i64 dir, .agg cx] w fun en w' => ∃ A c, en = .returned (.slice A (lay dir m).length c) ∧ (lay dir m).length ≤ c ∧ Kd.C (Kd.int .u8) w' A (lay dir m).length (lay dir m) ∧ Below w.heap.size w w' := by
  obtain ⟨⟨a0, a1, a2, a3, a4, a5, a6, a7, a8, a9, a10, a11, _⟩, adt, _⟩ := goodM_num hm.good
  have hws : is16 m.words := hm.good.2.1
  have H := Aside0.mk (Hd.start w)
  have hsz := hm.size
  have hix := msg_info hsz
  have n0_ := Aside0.mk ((((H.out.on (below_alloc (Below.refl _ _) (Obj.cells cx 30)))).add (sta_blk _ _) (blk_new _ _)).add (sta_msg _ _) (hm.on (below_alloc (Below.refl _ _) _)))
  clear H
  have H := n0_
  clear n0_
  obtain ⟨b3, b4, b6, b16, b22, b23, b24⟩ := codes_16 hk
  obtain ⟨d0, d1⟩ := dirs_0 hd
  have EX : Aside0 (lay dir m = putL [m.addr, m.count] ++ told m) := ⟨by unfold lay; (repeat' split) <;> first | rfl | (exfalso; omega)⟩
  obtain ⟨A12, c12, A13, c13, A14, c14, A15, c15, A21, c21, ⟨l12, _, l14, _, _⟩, ⟨r12, q12⟩, _, ⟨r14, q14⟩, _, _⟩ := IsMsg.lists H.out.f.2
  have kw := (blk_cell H.out.f.1.2 12).trans l12
  have kcode := bx_code H.out.f.1.2 H.out.f.2
  have kaddr := bx_addr H.out.f.1.2 H.out.f.2
  have kcount := bx_count H.out.f.1.2 H.out.f.2
  have n0_ := Aside0.mk ((H.out).add (sta_C _ _ _ _) (r12))
  clear H
  have H := n0_
  clear n0_
  have QW := Aside0.mk q12
  clear l12 r12 q12 l14 r14 q14
  obtain ⟨w2, w3, w4, u8_, u16a, u16b, u16c⟩ := nums_of hw
  have HA := Aside0.mk (And.intro a2 (And.intro a3 (And.intro a4 (And.intro a5 (And.intro a6 a7)))))
  have HWS := Aside0.mk hws
  have HWL := Aside0.mk hw
  clear a0 a1 a2 a3 a4 a5 a6 a7 a8 a9 a10 a11 adt hws hm hk hd
  go_enter Try.func32, Try.ntmps32
  go_upto_region 2 with (fail)
  go_upto_region 3 with (first | ((with_reducible refine gate_dst (N := 16) rfl ?_); (try (refine gate_guard (by rfl) ?_; dsimp only)); refine ev_lit .u8 [(2 * (m.words.length : Int)) % 256] 5 rfl (by first | (go_simp; done) | (go_simp; rfl)) (by simp) ?_; intro As cs wls bs he_ hr_ hz_ hb_; have Zs := Aside0.mk hz_; have Es := Aside0.mk he_; have n0_ := Aside0.mk ((H.out.on hb_).add (sta_C _ _ _ _) (hr_)); clear H; have H := n0_; clear n0_; have n0_ := (hb_.cell (World.block_lt_of_cell? _ _ kw)).trans kw; clear kw; have kw := n0_; clear n0_; have n0_ := (hb_.cell (World.block_lt_of_cell? _ _ kcode)).trans kcode; clear kcode; have kcode := n0_; clear n0_; have n0_ := (hb_.cell (World.block_lt_of_cell? _ _ kaddr)).trans kaddr; clear kaddr; have kaddr := n0_; clear n0_; have n0_ := (hb_.cell (World.block_lt_of_cell? _ _ kcount)).trans kcount; clear kcount; have kcount := n0_; clear n0_; clear hr_ hz_ hb_ he_) | (go_at_call 55; (with_reducible refine (put_b (ws := m.words) rfl HWS.out (by have := HWL.out; omega) H.out.f.1.2 QW.out).mono ?_); rintro en wqp ⟨Aqp, cqp, rfl, hz_, hr_, hb_⟩; have n0_ := (hb_.cell (World.block_lt_of_cell? _ _ kw)).trans kw; clear kw; have kw := n0_; clear n0_; have n0_ := (hb_.cell (World.block_lt_of_cell? _ _ kcode)).trans kcode; clear kcode; have kcode := n0_; clear n0_; have n0_ := (hb_.cell (World.block_lt_of_cell? _ _ kaddr)).trans kaddr; clear kaddr; have kaddr := n0_; clear n0_; have n0_ := (hb_.cell (World.block_lt_of_cell? _ _ kcount)).trans kcount; clear kcount; have kcount := n0_; clear n0_; have n0_ := Aside0.mk ((H.out.on hb_).add (sta_C _ _ _ _) (hr_)); clear H; have H := n0_; clear n0_; have Zp := Aside0.mk hz_; clear hb_ hz_ hr_))
  go_upto_region 12 with (fail)
  go_wp2_with (first | ((with_reducible refine gate_dst (N := 72) rfl ?_); (try (refine gate_guard (by rfl) ?_; dsimp only)); refine ev_lit .u16 [m.addr, m.count] 24 rfl (by first | (go_simp; done) | (go_simp; rfl)) (by simp) ?_; intro Ah ch wlh bh he_ hr_ hz_ hb_; have Zh := Aside0.mk hz_; have Eh := Aside0.mk he_; have n0_ := Aside0.mk ((H.out.on hb_).add (sta_C _ _ _ _) (hr_)); clear H; have H := n0_; clear n0_; have n0_ := (hb_.cell (World.block_lt_of_cell? _ _ kw)).trans kw; clear kw; have kw := n0_; clear n0_; have n0_ := (hb_.cell (World.block_lt_of_cell? _ _ kcode)).trans kcode; clear kcode; have kcode := n0_; clear n0_; have n0_ := (hb_.cell (World.block_lt_of_cell? _ _ kaddr)).trans kaddr; clear kaddr; have kaddr := n0_; clear n0_; have n0_ := (hb_.cell (World.block_lt_of_cell? _ _ kcount)).trans kcount; clear kcount; have kcount := n0_; clear n0_; clear hr_ hz_ hb_ he_) | (go_at_call 55; (with_reducible refine (put_r (ws := bh) rfl (by rw [Eh.out]; exact is16_2 HA.out.1 HA.out.2.1) (by rw [Eh.out]; simp) H.out.f.2 Zh.out).mono ?_); rintro en wqr ⟨vr, rfl, hr_, hb_⟩; have HSr := H; have n0_ := Aside0.mk (H.out.on hb_); clear H; have H := n0_; clear n0_; have n0_ := (hb_.cell (World.block_lt_of_cell? _ _ kw)).trans kw; clear kw; have kw := n0_; clear n0_; have n0_ := (hb_.cell (World.block_lt_of_cell? _ _ kcode)).trans kcode; clear kcode; have kcode := n0_; clear n0_; have n0_ := (hb_.cell (World.block_lt_of_cell? _ _ kaddr)).trans kaddr; clear kaddr; have kaddr := n0_; clear n0_; have n0_ := (hb_.cell (World.block_lt_of_cell? _ _ kcount)).trans kcount; clear kcount; have kcount := n0_; clear n0_; have Rr := Aside0.mk hr_; have Br := Aside0.mk hb_; obtain ⟨Ar, cr, ev_, _, _⟩ := Kd.R_reads hr_; subst ev_; clear hb_ hr_) | ((with_reducible refine gate_builtin (b := .append) (xs := #[.tmp 73, .tmp 74]) rfl ?_); at_builtin; (try (refine gate_guard (by rfl) ?_; dsimp only)); obtain ⟨nt, hnt_⟩ : ∃ z, z = (putL bh ++ bs).length := ⟨_, rfl⟩; have hl_ : (putL bh ++ bs).length ≤ 1000000 := (by first | omega | (simp only [List.length_append, List.length_cons, List.length_nil, putL_length]; omega) | (have h1_ := congrArg List.length Eh.out; simp only [List.length_cons, List.length_nil] at h1_; simp only [List.length_append, List.length_cons, List.length_nil, putL_length]; first | omega | (have h2_ := congrArg List.length Es.out; simp only [List.length_cons, List.length_nil] at h2_; omega))); refine Com.ev_app .u8 5 (.tmp 73) (.tmp 74) 22 1 rfl rfl Try.underlying22 (by kernel_rfl) (by decide) (by decide) rfl rfl Rr.out (H.out.f.1.1.2) Br.out (Nat.le_trans (Nat.le_of_eq List.length_append.symm) hl_) (zs := putL bh ++ bs) (n := nt) (by first | rfl | simp) hnt_.symm ?_; intro v1_ At ct wapt e1_ hR_ hC_ hz_ hb_; subst e1_; have n0_ := Aside0.mk (HSr.out.on hb_); clear H; have H := n0_; clear n0_; have HSt := HSr; have Rt := Aside0.mk hR_; have Bt := Aside0.mk hb_; have Zt := Aside0.mk hz_; have Ct := Aside0.mk hC_; clear hR_ hC_ hz_ hb_ hl_; have Nt := Aside0.mk hnt_; clear hnt_) | ((with_reducible refine gate_builtin (b := .append) (xs := #[.tmp 75, .tmp 76]) rfl ?_); at_builtin; (try (refine gate_guard (by rfl) ?_; dsimp only)); obtain ⟨ny, hnt_⟩ : ∃ z, z = ((putL bh ++ bs) ++ putL m.words).length := ⟨_, rfl⟩; have hl_ : ((putL bh ++ bs) ++ putL m.words).length ≤ 1000000 := (by first | omega | (simp only [List.length_append, List.length_cons, List.length_nil, putL_length]; omega) | (have h1_ := congrArg List.length Eh.out; simp only [List.length_cons, List.length_nil] at h1_; simp only [List.length_append, List.length_cons, List.length_nil, putL_length]; first | omega | (have h2_ := congrArg List.length Es.out; simp only [List.length_cons, List.length_nil] at h2_; omega))); refine Com.ev_app .u8 5 (.tmp 75) (.tmp 76) 22 1 rfl rfl Try.underlying22 (by kernel_rfl) (by decide) (by decide) rfl rfl Rt.out (H.out.f.1.2) Bt.out (Nat.le_trans (Nat.le_of_eq List.length_append.symm) hl_) (zs := (putL bh ++ bs) ++ putL m.words) (n := ny) (by first | rfl | simp) hnt_.symm ?_; intro v1_ Ay cy wapy e1_ hR_ hC_ hz_ hb_; subst e1_; have n0_ := Aside0.mk (HSt.out.on hb_); clear H; have H := n0_; clear n0_; have HSy := HSt; have Ry := Aside0.mk hR_; have By := Aside0.mk hb_; have Zy := Aside0.mk hz_; have Cy := Aside0.mk hC_; clear hR_ hC_ hz_ hb_ hl_; have Ny := Aside0.mk hnt_; clear hnt_))
  go_ret
  have ez : ((putL bh ++ bs) ++ putL m.words) = putL [m.addr, m.count] ++ told m := by rw [Eh.out, Es.out]; first | done | (unfold told sz; first | rfl | (rw [List.append_assoc]))
  rw [EX.out, ← ez]
  exact ⟨Ay, cy, by rw [← Ny.out]; rfl, by rw [← Ny.out]; exact Zy.out, by rw [← Ny.out]; exact Cy.out, (HSy.out.on By.out).b⟩
theorem lay_22_0 {dir : Int} {m : Msg} {cx : Array Value} {w : World} (hm : IsMsg w cx m) (hw : m.words.length ≤ 400000) (hk : m.code = 22) (hd : dir = 0) :
    Calls Try.prog 32 #[.int .i64 dir, .agg cx] w fun en w' => ∃ A c, en = .returned (.slice A (lay dir m).length c) ∧ (lay dir m).length ≤ c ∧ Kd.C (Kd.int .u8) w' A (lay dir m).length (lay dir m) ∧ Below w.heap.size w w' := by
  obtain ⟨⟨a0, a1, a2, a3, a4, a5, a6, a7, a8, a9, a10, a11, _⟩, adt, _⟩ := goodM_num hm.good
  have hws : is16 m.words := hm.good.2.1
  have H := Aside0.mk (Hd.start w)
  have hsz := hm.size
  have hix := msg_info hsz
  have n0_ := Aside0.mk ((((H.out.on (below_alloc (Below.refl _ _) (Obj.cells cx 30)))).add (sta_blk _ _) (blk_new _ _)).add (sta_msg _ _) (hm.on (below_alloc (Below.refl _ _) _)))
  clear H
  have H := n0_
  clear n0_
  obtain ⟨b3, b4, b6, b16, b22, b23, b24⟩ := codes_22 hk
  obtain ⟨d0, d1⟩ := dirs_0 hd
  have EX : Aside0 (lay dir m = putL [m.addr, m.and_, m.or_]) := ⟨by unfold lay; (repeat' split) <;> first | rfl | (exfalso; omega)⟩
  obtain ⟨A12, c12, A13, c13, A14, c14, A15, c15, A21, c21, ⟨l12, _, l14, _, _⟩, ⟨r12, q12⟩, _, ⟨r14, q14⟩, _, _⟩ := IsMsg.lists H.out.f.2
  have kw := (blk_cell H.out.f.1.2 12).trans l12
  have kcode := bx_code H.out.f.1.2 H.out.f.2
  have kaddr := bx_addr H.out.f.1.2 H.out.f.2
  have kand := bx_and H.out.f.1.2 H.out.f.2
  have kor := bx_or H.out.f.1.2 H.out.f.2
  have n0_ := Aside0.mk ((H.out).add (sta_C _ _ _ _) (r12))
  clear H
  have H := n0_
  clear n0_
  have QW := Aside0.mk q12
  clear l12 r12 q12 l14 r14 q14
  obtain ⟨w2, w3, w4, u8_, u16a, u16b, u16c⟩ := nums_of hw
  have HA := Aside0.mk (And.intro a2 (And.intro a3 (And.intro a4 (And.intro a5 (And.intro a6 a7)))))
  have HWS := Aside0.mk hws
  have HWL := Aside0.mk hw
  clear a0 a1 a2 a3 a4 a5 a6 a7 a8 a9 a10 a11 adt hws hm hk hd
  go_enter Try.func32, Try.ntmps32
  go_upto_region 2 with (fail)
  go_upto_region 3 with (first | ((with_reducible refine gate_dst (N := 16) rfl ?_); (try (refine gate_guard (by rfl) ?_; dsimp only)); refine ev_lit .u8 [(2 * (m.words.length : Int)) % 256] 5 rfl (by first | (go_simp; done) | (go_simp; rfl)) (by simp) ?_; intro As cs wls bs he_ hr_ hz_ hb_; have Zs := Aside0.mk hz_; have Es := Aside0.mk he_; have n0_ := Aside0.mk ((H.out.on hb_).add (sta_C _ _ _ _) (hr_)); clear H; have H := n0_; clear n0_; have n0_ := (hb_.cell (World.block_lt_of_cell? _ _ kw)).trans kw; clear kw; have kw := n0_; clear n0_; have n0_ := (hb_.cell (World.block_lt_of_cell? _ _ kcode)).trans kcode; clear kcode; have kcode := n0_; clear n0_; have n0_ := (hb_.cell (World.block_lt_of_cell? _ _ kaddr)).trans kaddr; clear kaddr; have kaddr := n0_; clear n0_; have n0_ := (hb_.cell (World.block_lt_of_cell? _ _ kand)).trans kand; clear kand; have kand := n0_; clear n0_; have n0_ := (hb_.cell (World.block_lt_of_cell? _ _ kor)).trans kor; clear kor; have kor := n0_; clear n0_; clear hr_ hz_ hb_ he_) | (go_at_call 55; (with_reducible refine (put_b (ws := m.words) rfl HWS.out (by have := HWL.out; omega) H.out.f.1.2 QW.out).mono ?_); rintro en wqp ⟨Aqp, cqp, rfl, hz_, hr_, hb_⟩; have n0_ := (hb_.cell (World.block_lt_of_cell? _ _ kw)).trans kw; clear kw; have kw := n0_; clear n0_; have n0_ := (hb_.cell (World.block_lt_of_cell? _ _ kcode)).trans kcode; clear kcode; have kcode := n0_; clear n0_; have n0_ := (hb_.cell (World.block_lt_of_cell? _ _ kaddr)).trans kaddr; clear kaddr; have kaddr := n0_; clear n0_; have n0_ := (hb_.cell (World.block_lt_of_cell? _ _ kand)).trans kand; clear kand; have kand := n0_; clear n0_; have n0_ := (hb_.cell (World.block_lt_of_cell? _ _ kor)).trans kor; clear kor; have kor := n0_; clear n0_; have n0_ := Aside0.mk ((H.out.on hb_).add (sta_C _ _ _ _) (hr_)); clear H; have H := n0_; clear n0_; have Zp := Aside0.mk hz_; clear hb_ hz_ hr_))
  go_upto_region 10 with (fail)
  go_wp2_with (first | ((with_reducible refine gate_dst (N := 60) rfl ?_); (try (refine gate_guard (by rfl) ?_; dsimp only)); refine ev_lit .u16 [m.addr, m.and_, m.or_] 24 rfl (by first | (go_simp; done) | (go_simp; rfl)) (by simp) ?_; intro Ah ch wlh bh he_ hr_ hz_ hb_; have Zh := Aside0.mk hz_; have Eh := Aside0.mk he_; have n0_ := Aside0.mk ((H.out.on hb_).add (sta_C _ _ _ _) (hr_)); clear H; have H := n0_; clear n0_; have n0_ := (hb_.cell (World.block_lt_of_cell? _ _ kw)).trans kw; clear kw; have kw := n0_; clear n0_; have n0_ := (hb_.cell (World.block_lt_of_cell? _ _ kcode)).trans kcode; clear kcode; have kcode := n0_; clear n0_; have n0_ := (hb_.cell (World.block_lt_of_cell? _ _ kaddr)).trans kaddr; clear kaddr; have kaddr := n0_; clear n0_; have n0_ := (hb_.cell (World.block_lt_of_cell? _ _ kand)).trans kand; clear kand; have kand := n0_; clear n0_; have n0_ := (hb_.cell (World.block_lt_of_cell? _ _ kor)).trans kor; clear kor; have kor := n0_; clear n0_; clear hr_ hz_ hb_ he_) | (go_at_call 55; (with_reducible refine (put_b (ws := bh) rfl (by rw [Eh.out]; exact is16_3 HA.out.1 HA.out.2.2.2.1 HA.out.2.2.2.2.1) (by rw [Eh.out]; simp) H.out.f.2 Zh.out).mono ?_); rintro en wqq ⟨Aqq, cqq, rfl, hz_, hr_, hb_⟩; have n0_ := (hb_.cell (World.block_lt_of_cell? _ _ kw)).trans kw; clear kw; have kw := n0_; clear n0_; have n0_ := (hb_.cell (World.block_lt_of_cell? _ _ kcode)).trans kcode; clear kcode; have kcode := n0_; clear n0_; have n0_ := (hb_.cell (World.block_lt_of_cell? _ _ kaddr)).trans kaddr; clear kaddr; have kaddr := n0_; clear n0_; have n0_ := (hb_.cell (World.block_lt_of_cell? _ _ kand)).trans kand; clear kand; have kand := n0_; clear n0_; have n0_ := (hb_.cell (World.block_lt_of_cell? _ _ kor)).trans kor; clear kor; have kor := n0_; clear n0_; have n0_ := Aside0.mk ((H.out.on hb_).add (sta_C _ _ _ _) (hr_)); clear H; have H := n0_; clear n0_; have Zq := Aside0.mk hz_; clear hb_ hz_ hr_))
  go_ret
  rw [EX.out, ← Eh.out]
  exact ⟨Aqq, cqq, rfl, Zq.out, H.out.f.2, H.out.b⟩
theorem lay_23_0 {dir : Int} {m : Msg} {cx : Array Value} {w : World} (hm : IsMsg w cx m) (hw : m.words.length ≤ 400000) (hk : m.code = 23) (hd : dir = 0) :
    Calls Try.prog 32 #[.int .i64 dir, .agg cx] w fun en w' => ∃ A c, en = .returned (.slice A (lay dir m).length c) ∧ (lay dir m).length ≤ c ∧ Kd.C (Kd.int .u8) w' A (lay dir m).length (lay dir m) ∧ Below w.heap.size w w' := by
  obtain ⟨⟨a0, a1, a2, a3, a4, a5, a6, a7, a8, a9, a10, a11, _⟩, adt, _⟩ := goodM_num hm.good
  have hws : is16 m.words := hm.good.2.1
  have H := Aside0.mk (Hd.start w)
  have hsz := hm.size
  have hix := msg_info hsz
  have n0_ := Aside0.mk ((((H.out.on (below_alloc (Below.refl _ _) (Obj.cells cx 30)))).add (sta_blk _ _) (blk_new _ _)).add (sta_msg _ _) (hm.on (below_alloc (Below.refl _ _) _)))
  clear H
  have H := n0_
  clear n0_
  obtain ⟨b3, b4, b6, b16, b22, b23, b24⟩ := codes_23 hk
  obtain ⟨d0, d1⟩ := dirs_0 hd
  have EX : Aside0 (lay dir m = putL [m.addr, m.count, m.addr2, (m.words.length : Int) % 65536] ++ told m) := ⟨by unfold lay; (repeat' split) <;> first | rfl | (exfalso; omega)⟩
  obtain ⟨A12, c12, A13, c13, A14, c14, A15, c15, A21, c21, ⟨l12, _, l14, _, _⟩, ⟨r12, q12⟩, _, ⟨r14, q14⟩, _, _⟩ := IsMsg.lists H.out.f.2
  have kw := (blk_cell H.out.f.1.2 12).trans l12
  have kcode := bx_code H.out.f.1.2 H.out.f.2
  have kaddr := bx_addr H.out.f.1.2 H.out.f.2
  have kcount := bx_count H.out.f.1.2 H.out.f.2
  have kaddr2 := bx_addr2 H.out.f.1.2 H.out.f.2
  have n0_ := Aside0.mk ((H.out).add (sta_C _ _ _ _) (r12))
  clear H
  have H := n0_
  clear n0_
  have QW := Aside0.mk q12
  clear l12 r12 q12 l14 r14 q14
  obtain ⟨w2, w3, w4, u8_, u16a, u16b, u16c⟩ := nums_of hw
  have HA := Aside0.mk (And.intro a2 (And.intro a3 (And.intro a4 (And.intro a5 (And.intro a6 a7)))))
  have HWS := Aside0.mk hws
  have HWL := Aside0.mk hw
  clear a0 a1 a2 a3 a4 a5 a6 a7 a8 a9 a10 a11 adt hws hm hk hd
  go_enter Try.func32, Try.ntmps32
  go_upto_region 2 with (fail)
  go_upto_region 3 with (first | ((with_reducible refine gate_dst (N := 16) rfl ?_); (try (refine gate_guard (by rfl) ?_; dsimp only)); refine ev_lit .u8 [(2 * (m.words.length : Int)) % 256] 5 rfl (by first | (go_simp; done) | (go_simp; rfl)) (by simp) ?_; intro As cs wls bs he_ hr_ hz_ hb_; have Zs := Aside0.mk hz_; have Es := Aside0.mk he_; have n0_ := Aside0.mk ((H.out.on hb_).add (sta_C _ _ _ _) (hr_)); clear H; have H := n0_; clear n0_; have n0_ := (hb_.cell (World.block_lt_of_cell? _ _ kw)).trans kw; clear kw; have kw := n0_; clear n0_; have n0_ := (hb_.cell (World.block_lt_of_cell? _ _ kcode)).trans kcode; clear kcode; have kcode := n0_; clear n0_; have n0_ := (hb_.cell (World.block_lt_of_cell? _ _ kaddr)).trans kaddr; clear kaddr; have kaddr := n0_; clear n0_; have n0_ := (hb_.cell (World.block_lt_of_cell? _ _ kcount)).trans kcount; clear kcount; have kcount := n0_; clear n0_; have n0_ := (hb_.cell (World.block_lt_of_cell? _ _ kaddr2)).trans kaddr2; clear kaddr2; have kaddr2 := n0_; clear n0_; clear hr_ hz_ hb_ he_) | (go_at_call 55; (with_reducible refine (put_b (ws := m.words) rfl HWS.out (by have := HWL.out; omega) H.out.f.1.2 QW.out).mono ?_); rintro en wqp ⟨Aqp, cqp, rfl, hz_, hr_, hb_⟩; have n0_ := (hb_.cell (World.block_lt_of_cell? _ _ kw)).trans kw; clear kw; have kw := n0_; clear n0_; have n0_ := (hb_.cell (World.block_lt_of_cell? _ _ kcode)).trans kcode; clear kcode; have kcode := n0_; clear n0_; have n0_ := (hb_.cell (World.block_lt_of_cell? _ _ kaddr)).trans kaddr; clear kaddr; have kaddr := n0_; clear n0_; have n0_ := (hb_.cell (World.block_lt_of_cell? _ _ kcount)).trans kcount; clear kcount; have kcount := n0_; clear n0_; have n0_ := (hb_.cell (World.block_lt_of_cell? _ _ kaddr2)).trans kaddr2; clear kaddr2; have kaddr2 := n0_; clear n0_; have n0_ := Aside0.mk ((H.out.on hb_).add (sta_C _ _ _ _) (hr_)); clear H; have H := n0_; clear n0_; have Zp := Aside0.mk hz_; clear hb_ hz_ hr_))
  go_upto_region 14 with (fail)
  go_wp2_with (first | ((with_reducible refine gate_dst (N := 89) rfl ?_); (try (refine gate_guard (by rfl) ?_; dsimp only)); refine ev_lit .u16 [m.addr, m.count, m.addr2, (m.words.length : Int) % 65536] 24 rfl (by first | (go_simp; done) | (go_simp; rfl)) (by simp) ?_; intro Ah ch wlh bh he_ hr_ hz_ hb_; have Zh := Aside0.mk hz_; have Eh := Aside0.mk he_; have n0_ := Aside0.mk ((H.out.on hb_).add (sta_C _ _ _ _) (hr_)); clear H; have H := n0_; clear n0_; have n0_ := (hb_.cell (World.block_lt_of_cell? _ _ kw)).trans kw; clear kw; have kw := n0_; clear n0_; have n0_ := (hb_.cell (World.block_lt_of_cell? _ _ kcode)).trans kcode; clear kcode; have kcode := n0_; clear n0_; have n0_ := (hb_.cell (World.block_lt_of_cell? _ _ kaddr)).trans kaddr; clear kaddr; have kaddr := n0_; clear n0_; have n0_ := (hb_.cell (World.block_lt_of_cell? _ _ kcount)).trans kcount; clear kcount; have kcount := n0_; clear n0_; have n0_ := (hb_.cell (World.block_lt_of_cell? _ _ kaddr2)).trans kaddr2; clear kaddr2; have kaddr2 := n0_; clear n0_; clear hr_ hz_ hb_ he_) | (go_at_call 55; (with_reducible refine (put_r (ws := bh) rfl (by rw [Eh.out]; exact is16_4 HA.out.1 HA.out.2.1 HA.out.2.2.2.2.2 (by omega)) (by rw [Eh.out]; simp) H.out.f.2 Zh.out).mono ?_); rintro en wqr ⟨vr, rfl, hr_, hb_⟩; have HSr := H; have n0_ := Aside0.mk (H.out.on hb_); clear H; have H := n0_; clear n0_; have n0_ := (hb_.cell (World.block_lt_of_cell? _ _ kw)).trans kw; clear kw; have kw := n0_; clear n0_; have n0_ := (hb_.cell (World.block_lt_of_cell? _ _ kcode)).trans kcode; clear kcode; have kcode := n0_; clear n0_; have n0_ := (hb_.cell (World.block_lt_of_cell? _ _ kaddr)).trans kaddr; clear kaddr; have kaddr := n0_; clear n0_; have n0_ := (hb_.cell (World.block_lt_of_cell? _ _ kcount)).trans kcount; clear kcount; have kcount := n0_; clear n0_; have n0_ := (hb_.cell (World.block_lt_of_cell? _ _ kaddr2)).trans kaddr2; clear kaddr2; have kaddr2 := n0_; clear n0_; have Rr := Aside0.mk hr_; have Br := Aside0.mk hb_; obtain ⟨Ar, cr, ev_, _, _⟩ := Kd.R_reads hr_; subst ev_; clear hb_ hr_) | ((with_reducible refine gate_builtin (b := .append) (xs := #[.tmp 90, .tmp 91]) rfl ?_); at_builtin; (try (refine gate_guard (by rfl) ?_; dsimp only)); obtain ⟨nt, hnt_⟩ : ∃ z, z = (putL bh ++ bs).length := ⟨_, rfl⟩; have hl_ : (putL bh ++ bs).length ≤ 1000000 := (by first | omega | (simp only [List.length_append, List.length_cons, List.length_nil, putL_length]; omega) | (have h1_ := congrArg List.length Eh.out; simp only [List.length_cons, List.length_nil] at h1_; simp only [List.length_append, List.length_cons, List.length_nil, putL_length]; first | omega | (have h2_ := congrArg List.length Es.out; simp only [List.length_cons, List.length_nil] at h2_; omega))); refine Com.ev_app .u8 5 (.tmp 90) (.tmp 91) 22 1 rfl rfl Try.underlying22 (by kernel_rfl) (by decide) (by decide) rfl rfl Rr.out (H.out.f.1.1.2) Br.out (Nat.le_trans (Nat.le_of_eq List.length_append.symm) hl_) (zs := putL bh ++ bs) (n := nt) (by first | rfl | simp) hnt_.symm ?_; intro v1_ At ct wapt e1_ hR_ hC_ hz_ hb_; subst e1_; have n0_ := Aside0.mk (HSr.out.on hb_); clear H; have H := n0_; clear n0_; have HSt := HSr; have Rt := Aside0.mk hR_; have Bt := Aside0.mk hb_; have Zt := Aside0.mk hz_; have Ct := Aside0.mk hC_; clear hR_ hC_ hz_ hb_ hl_; have Nt := Aside0.mk hnt_; clear hnt_) | ((with_reducible refine gate_builtin (b := .append) (xs := #[.tmp 92, .tmp 93]) rfl ?_); at_builtin; (try (refine gate_guard (by rfl) ?_; dsimp only)); obtain ⟨ny, hnt_⟩ : ∃ z, z = ((putL bh ++ bs) ++ putL m.words).length := ⟨_, rfl⟩; have hl_ : ((putL bh ++ bs) ++ putL m.words).length ≤ 1000000 := (by first | omega | (simp only [List.length_append, List.length_cons, List.length_nil, putL_length]; omega) | (have h1_ := congrArg List.length Eh.out; simp only [List.length_cons, List.length_nil] at h1_; simp only [List.length_append, List.length_cons, List.length_nil, putL_length]; first | omega | (have h2_ := congrArg List.length Es.out; simp only [List.length_cons, List.length_nil] at h2_; omega))); refine Com.ev_app .u8 5 (.tmp 92) (.tmp 93) 22 1 rfl rfl Try.underlying22 (by kernel_rfl) (by decide) (by decide) rfl rfl Rt.out (H.out.f.1.2) Bt.out (Nat.le_trans (Nat.le_of_eq List.length_append.symm) hl_) (zs := (putL bh ++ bs) ++ putL m.words) (n := ny) (by first | rfl | simp) hnt_.symm ?_; intro v1_ Ay cy wapy e1_ hR_ hC_ hz_ hb_; subst e1_; have n0_ := Aside0.mk (HSt.out.on hb_); clear H; have H := n0_; clear n0_; have HSy := HSt; have Ry := Aside0.mk hR_; have By := Aside0.mk hb_; have Zy := Aside0.mk hz_; have Cy := Aside0.mk hC_; clear hR_ hC_ hz_ hb_ hl_; have Ny := Aside0.mk hnt_; clear hnt_))
  go_ret
  have ez : ((putL bh ++ bs) ++ putL m.words) = putL [m.addr, m.count, m.addr2, (m.words.length : Int) % 65536] ++ told m := by rw [Eh.out, Es.out]; first | done | (unfold told sz; first | rfl | (rw [List.append_assoc]))
  rw [EX.out, ← ez]
  exact ⟨Ay, cy, by rw [← Ny.out]; rfl, by rw [← Ny.out]; exact Zy.out, by rw [← Ny.out]; exact Cy.out, (HSy.out.on By.out).b⟩
theorem lay_24_0 {dir : Int} {m : Msg} {cx : Array Value} {w : World} (hm : IsMsg w cx m) (hw : m.words.length ≤ 400000) (hk : m.code = 24) (hd : dir = 0) :
    Calls Try.prog 32 #[.int .i64 dir, .agg cx] w fun en w' => ∃ A c, en = .returned (.slice A (lay dir m).length c) ∧ (lay dir m).length ≤ c ∧ Kd.C (Kd.int .u8) w' A (lay dir m).length (lay dir m) ∧ Below w.heap.size w w' := by
  obtain ⟨⟨a0, a1, a2, a3, a4, a5, a6, a7, a8, a9, a10, a11, _⟩, adt, _⟩ := goodM_num hm.good
  have hws : is16 m.words := hm.good.2.1
  have H := Aside0.mk (Hd.start w)
  have hsz := hm.size
  have hix := msg_info hsz
  have n0_ := Aside0.mk ((((H.out.on (below_alloc (Below.refl _ _) (Obj.cells cx 30)))).add (sta_blk _ _) (blk_new _ _)).add (sta_msg _ _) (hm.on (below_alloc (Below.refl _ _) _)))
  clear H
  have H := n0_
  clear n0_
  obtain ⟨b3, b4, b6, b16, b22, b23, b24⟩ := codes_24 hk
  obtain ⟨d0, d1⟩ := dirs_0 hd
  have EX : Aside0 (lay dir m = putL [m.addr]) := ⟨by unfold lay; (repeat' split) <;> first | rfl | (exfalso; omega)⟩
  obtain ⟨A12, c12, A13, c13, A14, c14, A15, c15, A21, c21, ⟨l12, _, l14, _, _⟩, ⟨r12, q12⟩, _, ⟨r14, q14⟩, _, _⟩ := IsMsg.lists H.out.f.2
  have kw := (blk_cell H.out.f.1.2 12).trans l12
  have kcode := bx_code H.out.f.1.2 H.out.f.2
  have kaddr := bx_addr H.out.f.1.2 H.out.f.2
  have n0_ := Aside0.mk ((H.out).add (sta_C _ _ _ _) (r12))
  clear H
  have H := n0_
  clear n0_
  have QW := Aside0.mk q12
  clear l12 r12 q12 l14 r14 q14
  obtain ⟨w2, w3, w4, u8_, u16a, u16b, u16c⟩ := nums_of hw
  have HA := Aside0.mk (And.intro a2 (And.intro a3 (And.intro a4 (And.intro a5 (And.intro a6 a7)))))
  have HWS := Aside0.mk hws
  have HWL := Aside0.mk hw
  clear a0 a1 a2 a3 a4 a5 a6 a7 a8 a9 a10 a11 adt hws hm hk hd
  go_enter Try.func32, Try.ntmps32
  go_upto_region 2 with (fail)
  go_upto_region 3 with (first | ((with_reducible refine gate_dst (N := 16) rfl ?_); (try (refine gate_guard (by rfl) ?_; dsimp only)); refine ev_lit .u8 [(2 * (m.words.length : Int)) % 256] 5 rfl (by first | (go_simp; done) | (go_simp; rfl)) (by simp) ?_; intro As cs wls bs he_ hr_ hz_ hb_; have Zs := Aside0.mk hz_; have Es := Aside0.mk he_; have n0_ := Aside0.mk ((H.out.on hb_).add (sta_C _ _ _ _) (hr_)); clear H; have H := n0_; clear n0_; have n0_ := (hb_.cell (World.block_lt_of_cell? _ _ kw)).trans kw; clear kw; have kw := n0_; clear n0_; have n0_ := (hb_.cell (World.block_lt_of_cell? _ _ kcode)).trans kcode; clear kcode; have kcode := n0_; clear n0_; have n0_ := (hb_.cell (World.block_lt_of_cell? _ _ kaddr)).trans kaddr; clear kaddr; have kaddr := n0_; clear n0_; clear hr_ hz_ hb_ he_) | (go_at_call 55; (with_reducible refine (put_b (ws := m.words) rfl HWS.out (by have := HWL.out; omega) H.out.f.1.2 QW.out).mono ?_); rintro en wqp ⟨Aqp, cqp, rfl, hz_, hr_, hb_⟩; have n0_ := (hb_.cell (World.block_lt_of_cell? _ _ kw)).trans kw; clear kw; have kw := n0_; clear n0_; have n0_ := (hb_.cell (World.block_lt_of_cell? _ _ kcode)).trans kcode; clear kcode; have kcode := n0_; clear n0_; have n0_ := (hb_.cell (World.block_lt_of_cell? _ _ kaddr)).trans kaddr; clear kaddr; have kaddr := n0_; clear n0_; have n0_ := Aside0.mk ((H.out.on hb_).add (sta_C _ _ _ _) (hr_)); clear H; have H := n0_; clear n0_; have Zp := Aside0.mk hz_; clear hb_ hz_ hr_))
  go_upto_region 16 with (fail)
  go_wp2_with (first | ((with_reducible refine gate_dst (N := 103) rfl ?_); (try (refine gate_guard (by rfl) ?_; dsimp only)); refine ev_lit .u16 [m.addr] 24 rfl (by first | (go_simp; done) | (go_simp; rfl)) (by simp) ?_; intro Ah ch wlh bh he_ hr_ hz_ hb_; have Zh := Aside0.mk hz_; have Eh := Aside0.mk he_; have n0_ := Aside0.mk ((H.out.on hb_).add (sta_C _ _ _ _) (hr_)); clear H; have H := n0_; clear n0_; have n0_ := (hb_.cell (World.block_lt_of_cell? _ _ kw)).trans kw; clear kw; have kw := n0_; clear n0_; have n0_ := (hb_.cell (World.block_lt_of_cell? _ _ kcode)).trans kcode; clear kcode; have kcode := n0_; clear n0_; have n0_ := (hb_.cell (World.block_lt_of_cell? _ _ kaddr)).trans kaddr; clear kaddr; have kaddr := n0_; clear n0_; clear hr_ hz_ hb_ he_) | (go_at_call 55; (with_reducible refine (put_b (ws := bh) rfl (by rw [Eh.out]; exact is16_1 HA.out.1) (by rw [Eh.out]; simp) H.out.f.2 Zh.out).mono ?_); rintro en wqq ⟨Aqq, cqq, rfl, hz_, hr_, hb_⟩; have n0_ := (hb_.cell (World.block_lt_of_cell? _ _ kw)).trans kw; clear kw; have kw := n0_; clear n0_; have n0_ := (hb_.cell (World.block_lt_of_cell? _ _ kcode)).trans kcode; clear kcode; have kcode := n0_; clear n0_; have n0_ := (hb_.cell (World.block_lt_of_cell? _ _ kaddr)).trans kaddr; clear kaddr; have kaddr := n0_; clear n0_; have n0_ := Aside0.mk ((H.out.on hb_).add (sta_C _ _ _ _) (hr_)); clear H; have H := n0_; clear n0_; have Zq := Aside0.mk hz_; clear hb_ hz_ hr_))
  go_ret
  rw [EX.out, ← Eh.out]
  exact ⟨Aqq, cqq, rfl, Zq.out, H.out.f.2, H.out.b⟩
theorem lay_no_0 {dir : Int} {m : Msg} {cx : Array Value} {w : World} (hm : IsMsg w cx m) (hw : m.words.length ≤ 400000) (hk : m.code ≠ 3 ∧ m.code ≠ 4 ∧ m.code ≠ 6 ∧ m.code ≠ 16 ∧ m.code ≠ 22 ∧ m.code ≠ 23 ∧ m.code ≠ 24) (hd : dir = 0) :
    Calls Try.prog 32 #[.int .i64 dir, .agg cx] w fun en w' => ∃ A c, en = .returned (.slice A (lay dir m).length c) ∧ (lay dir m).length ≤ c ∧ Kd.C (Kd.int .u8) w' A (lay dir m).length (lay dir m) ∧ Below w.heap.size w w' := by
  obtain ⟨⟨a0, a1, a2, a3, a4, a5, a6, a7, a8, a9, a10, a11, _⟩, adt, _⟩ := goodM_num hm.good
  have hws : is16 m.words := hm.good.2.1
  have H := Aside0.mk (Hd.start w)
  have hsz := hm.size
  have hix := msg_info hsz
  have n0_ := Aside0.mk ((((H.out.on (below_alloc (Below.refl _ _) (Obj.cells cx 30)))).add (sta_blk _ _) (blk_new _ _)).add (sta_msg _ _) (hm.on (below_alloc (Below.refl _ _) _)))
  clear H
  have H := n0_
  clear n0_
  obtain ⟨b3, b4, b6, b16, b22, b23, b24⟩ := codes_no hk
  obtain ⟨d0, d1⟩ := dirs_0 hd
  have EX : Aside0 (lay dir m = putL [m.addr, m.count]) := ⟨by unfold lay; (repeat' split) <;> first | rfl | (exfalso; omega)⟩
  obtain ⟨A12, c12, A13, c13, A14, c14, A15, c15, A21, c21, ⟨l12, _, l14, _, _⟩, ⟨r12, q12⟩, _, ⟨r14, q14⟩, _, _⟩ := IsMsg.lists H.out.f.2
  have kw := (blk_cell H.out.f.1.2 12).trans l12
  have kcode := bx_code H.out.f.1.2 H.out.f.2
  have kaddr := bx_addr H.out.f.1.2 H.out.f.2
  have kcount := bx_count H.out.f.1.2 H.out.f.2
  have n0_ := Aside0.mk ((H.out).add (sta_C _ _ _ _) (r12))
  clear H
  have H := n0_
  clear n0_
  have QW := Aside0.mk q12
  clear l12 r12 q12 l14 r14 q14
  obtain ⟨w2, w3, w4, u8_, u16a, u16b, u16c⟩ := nums_of hw
  have HA := Aside0.mk (And.intro a2 (And.intro a3 (And.intro a4 (And.intro a5 (And.intro a6 a7)))))
  have HWS := Aside0.mk hws
  have HWL := Aside0.mk hw
  clear a0 a1 a2 a3 a4 a5 a6 a7 a8 a9 a10 a11 adt hws hm hk hd
  go_enter Try.func32, Try.ntmps32
  go_upto_region 2 with (fail)
  go_upto_region 3 with (first | ((with_reducible refine gate_dst (N := 16) rfl ?_); (try (refine gate_guard (by rfl) ?_; dsimp only)); refine ev_lit .u8 [(2 * (m.words.length : Int)) % 256] 5 rfl (by first | (go_simp; done) | (go_simp; rfl)) (by simp) ?_; intro As cs wls bs he_ hr_ hz_ hb_; have Zs := Aside0.mk hz_; have Es := Aside0.mk he_; have n0_ := Aside0.mk ((H.out.on hb_).add (sta_C _ _ _ _) (hr_)); clear H; have H := n0_; clear n0_; have n0_ := (hb_.cell (World.block_lt_of_cell? _ _ kw)).trans kw; clear kw; have kw := n0_; clear n0_; have n0_ := (hb_.cell (World.block_lt_of_cell? _ _ kcode)).trans kcode; clear kcode; have kcode := n0_; clear n0_; have n0_ := (hb_.cell (World.block_lt_of_cell? _ _ kaddr)).trans kaddr; clear kaddr; have kaddr := n0_; clear n0_; have n0_ := (hb_.cell (World.block_lt_of_cell? _ _ kcount)).trans kcount; clear kcount; have kcount := n0_; clear n0_; clear hr_ hz_ hb_ he_) | (go_at_call 55; (with_reducible refine (put_b (ws := m.words) rfl HWS.out (by have := HWL.out; omega) H.out.f.1.2 QW.out).mono ?_); rintro en wqp ⟨Aqp, cqp, rfl, hz_, hr_, hb_⟩; have n0_ := (hb_.cell (World.block_lt_of_cell? _ _ kw)).trans kw; clear kw; have kw := n0_; clear n0_; have n0_ := (hb_.cell (World.block_lt_of_cell? _ _ kcode)).trans kcode; clear kcode; have kcode := n0_; clear n0_; have n0_ := (hb_.cell (World.block_lt_of_cell? _ _ kaddr)).trans kaddr; clear kaddr; have kaddr := n0_; clear n0_; have n0_ := (hb_.cell (World.block_lt_of_cell? _ _ kcount)).trans kcount; clear kcount; have kcount := n0_; clear n0_; have n0_ := Aside0.mk ((H.out.on hb_).add (sta_C _ _ _ _) (hr_)); clear H; have H := n0_; clear n0_; have Zp := Aside0.mk hz_; clear hb_ hz_ hr_))
  go_upto_region 19 with (fail)
  go_wp2_with (first | ((with_reducible refine gate_dst (N := 122) rfl ?_); (try (refine gate_guard (by rfl) ?_; dsimp only)); refine ev_lit .u16 [m.addr, m.count] 24 rfl (by first | (go_simp; done) | (go_simp; rfl)) (by simp) ?_; intro Ah ch wlh bh he_ hr_ hz_ hb_; have Zh := Aside0.mk hz_; have Eh := Aside0.mk he_; have n0_ := Aside0.mk ((H.out.on hb_).add (sta_C _ _ _ _) (hr_)); clear H; have H := n0_; clear n0_; have n0_ := (hb_.cell (World.block_lt_of_cell? _ _ kw)).trans kw; clear kw; have kw := n0_; clear n0_; have n0_ := (hb_.cell (World.block_lt_of_cell? _ _ kcode)).trans kcode; clear kcode; have kcode := n0_; clear n0_; have n0_ := (hb_.cell (World.block_lt_of_cell? _ _ kaddr)).trans kaddr; clear kaddr; have kaddr := n0_; clear n0_; have n0_ := (hb_.cell (World.block_lt_of_cell? _ _ kcount)).trans kcount; clear kcount; have kcount := n0_; clear n0_; clear hr_ hz_ hb_ he_) | (go_at_call 55; (with_reducible refine (put_b (ws := bh) rfl (by rw [Eh.out]; exact is16_2 HA.out.1 HA.out.2.1) (by rw [Eh.out]; simp) H.out.f.2 Zh.out).mono ?_); rintro en wqq ⟨Aqq, cqq, rfl, hz_, hr_, hb_⟩; have n0_ := (hb_.cell (World.block_lt_of_cell? _ _ kw)).trans kw; clear kw; have kw := n0_; clear n0_; have n0_ := (hb_.cell (World.block_lt_of_cell? _ _ kcode)).trans kcode; clear kcode; have kcode := n0_; clear n0_; have n0_ := (hb_.cell (World.block_lt_of_cell? _ _ kaddr)).trans kaddr; clear kaddr; have kaddr := n0_; clear n0_; have n0_ := (hb_.cell (World.block_lt_of_cell? _ _ kcount)).trans kcount; clear kcount; have kcount := n0_; clear n0_; have n0_ := Aside0.mk ((H.out.on hb_).add (sta_C _ _ _ _) (hr_)); clear H; have H := n0_; clear n0_; have Zq := Aside0.mk hz_; clear hb_ hz_ hr_))
  go_ret
  rw [EX.out, ← Eh.out]
  exact ⟨Aqq, cqq, rfl, Zq.out, H.out.f.2, H.out.b⟩
theorem lay_3_2 {dir : Int} {m : Msg} {cx : Array Value} {w : World} (hm : IsMsg w cx m) (hw : m.words.length ≤ 400000) (hk : m.code = 3) (hd : dir ≠ 0) :
    Calls Try.prog 32 #[.int .i64 dir, .agg cx] w fun en w' => ∃ A c, en = .returned (.slice A (lay dir m).length c) ∧ (lay dir m).length ≤ c ∧ Kd.C (Kd.int .u8) w' A (lay dir m).length (lay dir m) ∧ Below w.heap.size w w' := by
  obtain ⟨⟨a0, a1, a2, a3, a4, a5, a6, a7, a8, a9, a10, a11, _⟩, adt, _⟩ := goodM_num hm.good
  have hws : is16 m.words := hm.good.2.1
  have H := Aside0.mk (Hd.start w)
  have hsz := hm.size
  have hix := msg_info hsz
  have n0_ := Aside0.mk ((((H.out.on (below_alloc (Below.refl _ _) (Obj.cells cx 30)))).add (sta_blk _ _) (blk_new _ _)).add (sta_msg _ _) (hm.on (below_alloc (Below.refl _ _) _)))
  clear H
  have H := n0_
  clear n0_
  obtain ⟨b3, b4, b6, b16, b22, b23, b24⟩ := codes_3 hk
  have d0 := dirs_2 hd
  have EX : Aside0 (lay dir m = told m) := ⟨by unfold lay; (repeat' split) <;> first | rfl | (exfalso; omega)⟩
  obtain ⟨A12, c12, A13, c13, A14, c14, A15, c15, A21, c21, ⟨l12, _, l14, _, _⟩, ⟨r12, q12⟩, _, ⟨r14, q14⟩, _, _⟩ := IsMsg.lists H.out.f.2
  have kw := (blk_cell H.out.f.1.2 12).trans l12
  have kcode := bx_code H.out.f.1.2 H.out.f.2
  have n0_ := Aside0.mk ((H.out).add (sta_C _ _ _ _) (r12))
  clear H
  have H := n0_
  clear n0_
  have QW := Aside0.mk q12
  clear l12 r12 q12 l14 r14 q14
  obtain ⟨w2, w3, w4, u8_, u16a, u16b, u16c⟩ := nums_of hw
  have HA := Aside0.mk (And.intro a2 (And.intro a3 (And.intro a4 (And.intro a5 (And.intro a6 a7)))))
  have HWS := Aside0.mk hws
  have HWL := Aside0.mk hw
  clear a0 a1 a2 a3 a4 a5 a6 a7 a8 a9 a10 a11 adt hws hm hk hd
  go_enter Try.func32, Try.ntmps32
  go_upto_region 2 with (fail)
  go_upto_region 3 with (first | ((with_reducible refine gate_dst (N := 16) rfl ?_); (try (refine gate_guard (by rfl) ?_; dsimp only)); refine Com.ev_rlit .u8 [(2 * (m.words.length : Int)) % 256] 5 rfl rfl (by first | (go_simp; done) | (go_simp; rfl)) (by simp) ?_; intro vr wr hr_ hb_; have HSr := H; have n0_ := Aside0.mk (H.out.on hb_); clear H; have H := n0_; clear n0_; have n0_ := (hb_.cell (World.block_lt_of_cell? _ _ kw)).trans kw; clear kw; have kw := n0_; clear n0_; have n0_ := (hb_.cell (World.block_lt_of_cell? _ _ kcode)).trans kcode; clear kcode; have kcode := n0_; clear n0_; have Rr := Aside0.mk hr_; have Br := Aside0.mk hb_; obtain ⟨Ar, cr, ev_, _, _⟩ := Kd.R_reads hr_; subst ev_; clear hb_ hr_) | (go_at_call 55; (with_reducible refine (put_b (ws := m.words) rfl HWS.out (by have := HWL.out; omega) H.out.f.2 QW.out).mono ?_); rintro en wqp ⟨Aqp, cqp, rfl, hz_, hr_, hb_⟩; have n0_ := Aside0.mk (Kd.R_below Rr.out hb_); have n1_ := Aside0.mk (Br.out.trans (hb_.mono Br.out.size)); clear Rr Br; have Rr := n0_; have Br := n1_; clear n0_ n1_; have n0_ := (hb_.cell (World.block_lt_of_cell? _ _ kw)).trans kw; clear kw; have kw := n0_; clear n0_; have n0_ := (hb_.cell (World.block_lt_of_cell? _ _ kcode)).trans kcode; clear kcode; have kcode := n0_; clear n0_; have n0_ := Aside0.mk ((H.out.on hb_).add (sta_C _ _ _ _) (hr_)); clear H; have H := n0_; clear n0_; have Zp := Aside0.mk hz_; clear hb_ hz_ hr_))
  go_upto_region 6 with (fail)
  have hl1 := told_len m
  go_wp2_with (first | ((with_reducible refine gate_builtin (b := .append) (xs := #[.tmp 39, .tmp 40]) rfl ?_); at_builtin; (try (refine gate_guard (by rfl) ?_; dsimp only)); have hl_ : (told m).length ≤ 1000000 := (by first | omega | (simp only [List.length_append, List.length_cons, List.length_nil, putL_length]; omega) | (have h1_ := congrArg List.length Eh.out; simp only [List.length_cons, List.length_nil] at h1_; simp only [List.length_append, List.length_cons, List.length_nil, putL_length]; first | omega | (have h2_ := congrArg List.length Es.out; simp only [List.length_cons, List.length_nil] at h2_; omega))); refine Com.ev_app .u8 5 (.tmp 39) (.tmp 40) 22 1 rfl rfl Try.underlying22 (by kernel_rfl) (by decide) (by decide) rfl rfl Rr.out (H.out.f.2) Br.out (Nat.le_trans (Nat.le_of_eq List.length_append.symm) hl_) (zs := told m) (n := (told m).length) (by first | rfl | simp) (by first | rfl | simp) ?_; intro v1_ Ay cy wapy e1_ hR_ hC_ hz_ hb_; subst e1_; have n0_ := Aside0.mk (HSr.out.on hb_); clear H; have H := n0_; clear n0_; have HSy := HSr; have Ry := Aside0.mk hR_; have By := Aside0.mk hb_; have Zy := Aside0.mk hz_; have Cy := Aside0.mk hC_; clear hR_ hC_ hz_ hb_ hl_))
  go_ret
  rw [EX.out]
  exact ⟨Ay, cy, by rw [told_len]; rfl, Zy.out, Cy.out, (HSy.out.on By.out).b⟩
theorem lay_4_2 {dir : Int} {m : Msg} {cx : Array Value} {w : World} (hm : IsMsg w cx m) (hw : m.words.length ≤ 400000) (hk : m.code = 4) (hd : dir ≠ 0) :
    Calls Try.prog 32 #[.int .i64 dir, .agg cx] w fun en w' => ∃ A c, en = .returned (.slice A (lay dir m).length c) ∧ (lay dir m).length ≤ c ∧ Kd.C (Kd.int .u8) w' A (lay dir m).length (lay dir m) ∧ Below w.heap.size w w' := by
  obtain ⟨⟨a0, a1, a2, a3, a4, a5, a6, a7, a8, a9, a10, a11, _⟩, adt, _⟩ := goodM_num hm.good
  have hws : is16 m.words := hm.good.2.1
  have H := Aside0.mk (Hd.start w)
  have hsz := hm.size
  have hix := msg_info hsz
  have n0_ := Aside0.mk ((((H.out.on (below_alloc (Below.refl _ _) (Obj.cells cx 30)))).add (sta_blk _ _) (blk_new _ _)).add (sta_msg _ _) (hm.on (below_alloc (Below.refl _ _) _)))
  clear H
  have H := n0_
  clear n0_
  obtain ⟨b3, b4, b6, b16, b22, b23, b24⟩ := codes_4 hk
  have d0 := dirs_2 hd
  have EX : Aside0 (lay dir m = told m) := ⟨by unfold lay; (repeat' split) <;> first | rfl | (exfalso; omega)⟩
  obtain ⟨A12, c12, A13, c13, A14, c14, A15, c15, A21, c21, ⟨l12, _, l14, _, _⟩, ⟨r12, q12⟩, _, ⟨r14, q14⟩, _, _⟩ := IsMsg.lists H.out.f.2
  have kw := (blk_cell H.out.f.1.2 12).trans l12
  have kcode := bx_code H.out.f.1.2 H.out.f.2
  have n0_ := Aside0.mk ((H.out).add (sta_C _ _ _ _) (r12))
  clear H
  have H := n0_
  clear n0_
  have QW := Aside0.mk q12
  clear l12 r12 q12 l14 r14 q14
  obtain ⟨w2, w3, w4, u8_, u16a, u16b, u16c⟩ := nums_of hw
  have HA := Aside0.mk (And.intro a2 (And.intro a3 (And.intro a4 (And.intro a5 (And.intro a6 a7)))))
  have HWS := Aside0.mk hws
  have HWL := Aside0.mk hw
  clear a0 a1 a2 a3 a4 a5 a6 a7 a8 a9 a10 a11 adt hws hm hk hd
  go_enter Try.func32, Try.ntmps32
  go_upto_region 2 with (fail)
  go_upto_region 3 with (first | ((with_reducible refine gate_dst (N := 16) rfl ?_); (try (refine gate_guard (by rfl) ?_; dsimp only)); refine Com.ev_rlit .u8 [(2 * (m.words.length : Int)) % 256] 5 rfl rfl (by first | (go_simp; done) | (go_simp; rfl)) (by simp) ?_; intro vr wr hr_ hb_; have HSr := H; have n0_ := Aside0.mk (H.out.on hb_); clear H; have H := n0_; clear n0_; have n0_ := (hb_.cell (World.block_lt_of_cell? _ _ kw)).trans kw; clear kw; have kw := n0_; clear n0_; have n0_ := (hb_.cell (World.block_lt_of_cell? _ _ kcode)).trans kcode; clear kcode; have kcode := n0_; clear n0_; have Rr := Aside0.mk hr_; have Br := Aside0.mk hb_; obtain ⟨Ar, cr, ev_, _, _⟩ := Kd.R_reads hr_; subst ev_; clear hb_ hr_) | (go_at_call 55; (with_reducible refine (put_b (ws := m.words) rfl HWS.out (by have := HWL.out; omega) H.out.f.2 QW.out).mono ?_); rintro en wqp ⟨Aqp, cqp, rfl, hz_, hr_, hb_⟩; have n0_ := Aside0.mk (Kd.R_below Rr.out hb_); have n1_ := Aside0.mk (Br.out.trans (hb_.mono Br.out.size)); clear Rr Br; have Rr := n0_; have Br := n1_; clear n0_ n1_; have n0_ := (hb_.cell (World.block_lt_of_cell? _ _ kw)).trans kw; clear kw; have kw := n0_; clear n0_; have n0_ := (hb_.cell (World.block_lt_of_cell? _ _ kcode)).trans kcode; clear kcode; have kcode := n0_; clear n0_; have n0_ := Aside0.mk ((H.out.on hb_).add (sta_C _ _ _ _) (hr_)); clear H; have H := n0_; clear n0_; have Zp := Aside0.mk hz_; clear hb_ hz_ hr_))
  go_upto_region 6 with (fail)
  have hl1 := told_len m
  go_wp2_with (first | ((with_reducible refine gate_builtin (b := .append) (xs := #[.tmp 39, .tmp 40]) rfl ?_); at_builtin; (try (refine gate_guard (by rfl) ?_; dsimp only)); have hl_ : (told m).length ≤ 1000000 := (by first | omega | (simp only [List.length_append, List.length_cons, List.length_nil, putL_length]; omega) | (have h1_ := congrArg List.length Eh.out; simp only [List.length_cons, List.length_nil] at h1_; simp only [List.length_append, List.length_cons, List.length_nil, putL_length]; first | omega | (have h2_ := congrArg List.length Es.out; simp only [List.length_cons, List.length_nil] at h2_; omega))); refine Com.ev_app .u8 5 (.tmp 39) (.tmp 40) 22 1 rfl rfl Try.underlying22 (by kernel_rfl) (by decide) (by decide) rfl rfl Rr.out (H.out.f.2) Br.out (Nat.le_trans (Nat.le_of_eq List.length_append.symm) hl_) (zs := told m) (n := (told m).length) (by first | rfl | simp) (by first | rfl | simp) ?_; intro v1_ Ay cy wapy e1_ hR_ hC_ hz_ hb_; subst e1_; have n0_ := Aside0.mk (HSr.out.on hb_); clear H; have H := n0_; clear n0_; have HSy := HSr; have Ry := Aside0.mk hR_; have By := Aside0.mk hb_; have Zy := Aside0.mk hz_; have Cy := Aside0.mk hC_; clear hR_ hC_ hz_ hb_ hl_))
  go_ret
  rw [EX.out]
  exact ⟨Ay, cy, by rw [told_len]; rfl, Zy.out, Cy.out, (HSy.out.on By.out).b⟩
theorem lay_6_2 {dir : Int} {m : Msg} {cx : Array Value} {w : World} (hm : IsMsg w cx m) (hw : m.words.length ≤ 400000) (hk : m.code = 6) (hd : dir ≠ 0) :
    Calls Try.prog 32 #[.int .i64 dir, .agg cx] w fun en w' => ∃ A c, en = .returned (.slice A (lay dir m).length c) ∧ (lay dir m).length ≤ c ∧ Kd.C (Kd.int .u8) w' A (lay dir m).length (lay dir m) ∧ Below w.heap.size w w' := by
  obtain ⟨⟨a0, a1, a2, a3, a4, a5, a6, a7, a8, a9, a10, a11, _⟩, adt, _⟩ := goodM_num hm.good
  have hws : is16 m.words := hm.good.2.1
  have H := Aside0.mk (Hd.start w)
  have hsz := hm.size
  have hix := msg_info hsz
  have n0_ := Aside0.mk ((((H.out.on (below_alloc (Below.refl _ _) (Obj.cells cx 30)))).add (sta_blk _ _) (blk_new _ _)).add (sta_msg _ _) (hm.on (below_alloc (Below.refl _ _) _)))
  clear H
  have H := n0_
  clear n0_
  obtain ⟨b3, b4, b6, b16, b22, b23, b24⟩ := codes_6 hk
  have d0 := dirs_2 hd
  have EX : Aside0 (lay dir m = putL [m.addr, m.value]) := ⟨by unfold lay; (repeat' split) <;> first | rfl | (exfalso; omega)⟩
  obtain ⟨A12, c12, A13, c13, A14, c14, A15, c15, A21, c21, ⟨l12, _, l14, _, _⟩, ⟨r12, q12⟩, _, ⟨r14, q14⟩, _, _⟩ := IsMsg.lists H.out.f.2
  have kw := (blk_cell H.out.f.1.2 12).trans l12
  have kcode := bx_code H.out.f.1.2 H.out.f.2
  have kaddr := bx_addr H.out.f.1.2 H.out.f.2
  have kvalue := bx_value H.out.f.1.2 H.out.f.2
  have n0_ := Aside0.mk ((H.out).add (sta_C _ _ _ _) (r12))
  clear H
  have H := n0_
  clear n0_
  have QW := Aside0.mk q12
  clear l12 r12 q12 l14 r14 q14
  obtain ⟨w2, w3, w4, u8_, u16a, u16b, u16c⟩ := nums_of hw
  have HA := Aside0.mk (And.intro a2 (And.intro a3 (And.intro a4 (And.intro a5 (And.intro a6 a7)))))
  have HWS := Aside0.mk hws
  have HWL := Aside0.mk hw
  clear a0 a1 a2 a3 a4 a5 a6 a7 a8 a9 a10 a11 adt hws hm hk hd
  go_enter Try.func32, Try.ntmps32
  go_upto_region 2 with (fail)
  go_upto_region 3 with (first | ((with_reducible refine gate_dst (N := 16) rfl ?_); (try (refine gate_guard (by rfl) ?_; dsimp only)); refine ev_lit .u8 [(2 * (m.words.length : Int)) % 256] 5 rfl (by first | (go_simp; done) | (go_simp; rfl)) (by simp) ?_; intro As cs wls bs he_ hr_ hz_ hb_; have Zs := Aside0.mk hz_; have Es := Aside0.mk he_; have n0_ := Aside0.mk ((H.out.on hb_).add (sta_C _ _ _ _) (hr_)); clear H; have H := n0_; clear n0_; have n0_ := (hb_.cell (World.block_lt_of_cell? _ _ kw)).trans kw; clear kw; have kw := n0_; clear n0_; have n0_ := (hb_.cell (World.block_lt_of_cell? _ _ kcode)).trans kcode; clear kcode; have kcode := n0_; clear n0_; have n0_ := (hb_.cell (World.block_lt_of_cell? _ _ kaddr)).trans kaddr; clear kaddr; have kaddr := n0_; clear n0_; have n0_ := (hb_.cell (World.block_lt_of_cell? _ _ kvalue)).trans kvalue; clear kvalue; have kvalue := n0_; clear n0_; clear hr_ hz_ hb_ he_) | (go_at_call 55; (with_reducible refine (put_b (ws := m.words) rfl HWS.out (by have := HWL.out; omega) H.out.f.1.2 QW.out).mono ?_); rintro en wqp ⟨Aqp, cqp, rfl, hz_, hr_, hb_⟩; have n0_ := (hb_.cell (World.block_lt_of_cell? _ _ kw)).trans kw; clear kw; have kw := n0_; clear n0_; have n0_ := (hb_.cell (World.block_lt_of_cell? _ _ kcode)).trans kcode; clear kcode; have kcode := n0_; clear n0_; have n0_ := (hb_.cell (World.block_lt_of_cell? _ _ kaddr)).trans kaddr; clear kaddr; have kaddr := n0_; clear n0_; have n0_ := (hb_.cell (World.block_lt_of_cell? _ _ kvalue)).trans kvalue; clear kvalue; have kvalue := n0_; clear n0_; have n0_ := Aside0.mk ((H.out.on hb_).add (sta_C _ _ _ _) (hr_)); clear H; have H := n0_; clear n0_; have Zp := Aside0.mk hz_; clear hb_ hz_ hr_))
  go_upto_region 8 with (fail)
  go_wp2_with (first | ((with_reducible refine gate_dst (N := 49) rfl ?_); (try (refine gate_guard (by rfl) ?_; dsimp only)); refine ev_lit .u16 [m.addr, m.value] 24 rfl (by first | (go_simp; done) | (go_simp; rfl)) (by simp) ?_; intro Ah ch wlh bh he_ hr_ hz_ hb_; have Zh := Aside0.mk hz_; have Eh := Aside0.mk he_; have n0_ := Aside0.mk ((H.out.on hb_).add (sta_C _ _ _ _) (hr_)); clear H; have H := n0_; clear n0_; have n0_ := (hb_.cell (World.block_lt_of_cell? _ _ kw)).trans kw; clear kw; have kw := n0_; clear n0_; have n0_ := (hb_.cell (World.block_lt_of_cell? _ _ kcode)).trans kcode; clear kcode; have kcode := n0_; clear n0_; have n0_ := (hb_.cell (World.block_lt_of_cell? _ _ kaddr)).trans kaddr; clear kaddr; have kaddr := n0_; clear n0_; have n0_ := (hb_.cell (World.block_lt_of_cell? _ _ kvalue)).trans kvalue; clear kvalue; have kvalue := n0_; clear n0_; clear hr_ hz_ hb_ he_) | (go_at_call 55; (with_reducible refine (put_b (ws := bh) rfl (by rw [Eh.out]; exact is16_2 HA.out.1 HA.out.2.2.1) (by rw [Eh.out]; simp) H.out.f.2 Zh.out).mono ?_); rintro en wqq ⟨Aqq, cqq, rfl, hz_, hr_, hb_⟩; have n0_ := (hb_.cell (World.block_lt_of_cell? _ _ kw)).trans kw; clear kw; have kw := n0_; clear n0_; have n0_ := (hb_.cell (World.block_lt_of_cell? _ _ kcode)).trans kcode; clear kcode; have kcode := n0_; clear n0_; have n0_ := (hb_.cell (World.block_lt_of_cell? _ _ kaddr)).trans kaddr; clear kaddr; have kaddr := n0_; clear n0_; have n0_ := (hb_.cell (World.block_lt_of_cell? _ _ kvalue)).trans kvalue; clear kvalue; have kvalue := n0_; clear n0_; have n0_ := Aside0.mk ((H.out.on hb_).add (sta_C _ _ _ _) (hr_)); clear H; have H := n0_; clear n0_; have Zq := Aside0.mk hz_; clear hb_ hz_ hr_))
  go_ret
  rw [EX.out, ← Eh.out]
  exact ⟨Aqq, cqq, rfl, Zq.out, H.out.f.2, H.out.b⟩
theorem lay_16_2 {dir : Int} {m : Msg} {cx : Array Value} {w : World} (hm : IsMsg w cx m) (hw : m.words.length ≤ 400000) (hk : m.code = 16) (hd : dir ≠ 0) :
    Calls Try.prog 32 #[.int .i64 dir, .agg cx] w fun en w' => ∃ A c, en = .returned (.slice A (lay dir m).length c) ∧ (lay dir m).length ≤ c ∧ Kd.C (Kd.int .u8) w' A (lay dir m).length (lay dir m) ∧ Below w.heap.size w w' := by
  obtain ⟨⟨a0, a1, a2, a3, a4, a5, a6, a7, a8, a9, a10, a11, _⟩, adt, _⟩ := goodM_num hm.good
  have hws : is16 m.words := hm.good.2.1
  have H := Aside0.mk (Hd.start w)
  have hsz := hm.size
  have hix := msg_info hsz
  have n0_ := Aside0.mk ((((H.out.on (below_alloc (Below.refl _ _) (Obj.cells cx 30)))).add (sta_blk _ _) (blk_new _ _)).add (sta_msg _ _) (hm.on (below_alloc (Below.refl _ _) _)))
  clear H
  have H := n0_
  clear n0_
  obtain ⟨b3, b4, b6, b16, b22, b23, b24⟩ := codes_16 hk
  have d0 := dirs_2 hd
  have EX : Aside0 (lay dir m = putL [m.addr, m.count]) := ⟨by unfold lay; (repeat' split) <;> first | rfl | (exfalso; omega)⟩
  obtain ⟨A12, c12, A13, c13, A14, c14, A15, c15, A21, c21, ⟨l12, _, l14, _, _⟩, ⟨r12, q12⟩, _, ⟨r14, q14⟩, _, _⟩ := IsMsg.lists H.out.f.2
  have kw := (blk_cell H.out.f.1.2 12).trans l12
  have kcode := bx_code H.out.f.1.2 H.out.f.2
  have kaddr := bx_addr H.out.f.1.2 H.out.f.2
  have kcount := bx_count H.out.f.1.2 H.out.f.2
  have n0_ := Aside0.mk ((H.out).add (sta_C _ _ _ _) (r12))
  clear H
  have H := n0_
  clear n0_
  have QW := Aside0.mk q12
  clear l12 r12 q12 l14 r14 q14
  obtain ⟨w2, w3, w4, u8_, u16a, u16b, u16c⟩ := nums_of hw
  have HA := Aside0.mk (And.intro a2 (And.intro a3 (And.intro a4 (And.intro a5 (And.intro a6 a7)))))
  have HWS := Aside0.mk hws
  have HWL := Aside0.mk hw
  clear a0 a1 a2 a3 a4 a5 a6 a7 a8 a9 a10 a11 adt hws hm hk hd
  go_enter Try.func32, Try.ntmps32
  go_upto_region 2 with (fail)
  go_upto_region 3 with (first | ((with_reducible refine gate_dst (N := 16) rfl ?_); (try (refine gate_guard (by rfl) ?_; dsimp only)); refine ev_lit .u8 [(2 * (m.words.length : Int)) % 256] 5 rfl (by first | (go_simp; done) | (go_simp; rfl)) (by simp) ?_; intro As cs wls bs he_ hr_ hz_ hb_; have Zs := Aside0.mk hz_; have Es := Aside0.mk he_; have n0_ := Aside0.mk ((H.out.on hb_).add (sta_C _ _ _ _) (hr_)); clear H; have H := n0_; clear n0_; have n0_ := (hb_.cell (World.block_lt_of_cell? _ _ kw)).trans kw; clear kw; have kw := n0_; clear n0_; have n0_ := (hb_.cell (World.block_lt_of_cell? _ _ kcode)).trans kcode; clear kcode; have kcode := n0_; clear n0_; have n0_ := (hb_.cell (World.block_lt_of_cell? _ _ kaddr)).trans kaddr; clear kaddr; have kaddr := n0_; clear n0_; have n0_ := (hb_.cell (World.block_lt_of_cell? _ _ kcount)).trans kcount; clear kcount; have kcount := n0_; clear n0_; clear hr_ hz_ hb_ he_) | (go_at_call 55; (with_reducible refine (put_b (ws := m.words) rfl HWS.out (by have := HWL.out; omega) H.out.f.1.2 QW.out).mono ?_); rintro en wqp ⟨Aqp, cqp, rfl, hz_, hr_, hb_⟩; have n0_ := (hb_.cell (World.block_lt_of_cell? _ _ kw)).trans kw; clear kw; have kw := n0_; clear n0_; have n0_ := (hb_.cell (World.block_lt_of_cell? _ _ kcode)).trans kcode; clear kcode; have kcode := n0_; clear n0_; have n0_ := (hb_.cell (World.block_lt_of_cell? _ _ kaddr)).trans kaddr; clear kaddr; have kaddr := n0_; clear n0_; have n0_ := (hb_.cell (World.block_lt_of_cell? _ _ kcount)).trans kcount; clear kcount; have kcount := n0_; clear n0_; have n0_ := Aside0.mk ((H.out.on hb_).add (sta_C _ _ _ _) (hr_)); clear H; have H := n0_; clear n0_; have Zp := Aside0.mk hz_; clear hb_ hz_ hr_))
  go_upto_region 19 with (fail)
  go_wp2_with (first | ((with_reducible refine gate_dst (N := 122) rfl ?_); (try (refine gate_guard (by rfl) ?_; dsimp only)); refine ev_lit .u16 [m.addr, m.count] 24 rfl (by first | (go_simp; done) | (go_simp; rfl)) (by simp) ?_; intro Ah ch wlh bh he_ hr_ hz_ hb_; have Zh := Aside0.mk hz_; have Eh := Aside0.mk he_; have n0_ := Aside0.mk ((H.out.on hb_).add (sta_C _ _ _ _) (hr_)); clear H; have H := n0_; clear n0_; have n0_ := (hb_.cell (World.block_lt_of_cell? _ _ kw)).trans kw; clear kw; have kw := n0_; clear n0_; have n0_ := (hb_.cell (World.block_lt_of_cell? _ _ kcode)).trans kcode; clear kcode; have kcode := n0_; clear n0_; have n0_ := (hb_.cell (World.block_lt_of_cell? _ _ kaddr)).trans kaddr; clear kaddr; have kaddr := n0_; clear n0_; have n0_ := (hb_.cell (World.block_lt_of_cell? _ _ kcount)).trans kcount; clear kcount; have kcount := n0_; clear n0_; clear hr_ hz_ hb_ he_) | (go_at_call 55; (with_reducible refine (put_b (ws := bh) rfl (by rw [Eh.out]; exact is16_2 HA.out.1 HA.out.2.1) (by rw [Eh.out]; simp) H.out.f.2 Zh.out).mono ?_); rintro en wqq ⟨Aqq, cqq, rfl, hz_, hr_, hb_⟩; have n0_ := (hb_.cell (World.block_lt_of_cell? _ _ kw)).trans kw; clear kw; have kw := n0_; clear n0_; have n0_ := (hb_.cell (World.block_lt_of_cell? _ _ kcode)).trans kcode; clear kcode; have kcode := n0_; clear n0_; have n0_ := (hb_.cell (World.block_lt_of_cell? _ _ kaddr)).trans kaddr; clear kaddr; have kaddr := n0_; clear n0_; have n0_ := (hb_.cell (World.block_lt_of_cell? _ _ kcount)).trans kcount; clear kcount; have kcount := n0_; clear n0_; have n0_ := Aside0.mk ((H.out.on hb_).add (sta_C _ _ _ _) (hr_)); clear H; have H := n0_; clear n0_; have Zq := Aside0.mk hz_; clear hb_ hz_ hr_))
  go_ret
  rw [EX.out, ← Eh.out]
  exact ⟨Aqq, cqq, rfl, Zq.out, H.out.f.2, H.out.b⟩
theorem lay_22_2 {dir : Int} {m : Msg} {cx : Array Value} {w : World} (hm : IsMsg w cx m) (hw : m.words.length ≤ 400000) (hk : m.code = 22) (hd : dir ≠ 0) :
    Calls Try.prog 32 #[.int .i64 dir, .agg cx] w fun en w' => ∃ A c, en = .returned (.slice A (lay dir m).length c) ∧ (lay dir m).length ≤ c ∧ Kd.C (Kd.int .u8) w' A (lay dir m).length (lay dir m) ∧ Below w.heap.size w w' := by
  obtain ⟨⟨a0, a1, a2, a3, a4, a5, a6, a7, a8, a9, a10, a11, _⟩, adt, _⟩ := goodM_num hm.good
  have hws : is16 m.words := hm.good.2.1
  have H := Aside0.mk (Hd.start w)
  have hsz := hm.size
  have hix := msg_info hsz
  have n0_ := Aside0.mk ((((H.out.on (below_alloc (Below.refl _ _) (Obj.cells cx 30)))).add (sta_blk _ _) (blk_new _ _)).add (sta_msg _ _) (hm.on (below_alloc (Below.refl _ _) _)))
  clear H
  have H := n0_
  clear n0_
  obtain ⟨b3, b4, b6, b16, b22, b23, b24⟩ := codes_22 hk
  have d0 := dirs_2 hd
  have EX : Aside0 (lay dir m = putL [m.addr, m.and_, m.or_]) := ⟨by unfold lay; (repeat' split) <;> first | rfl | (exfalso; omega)⟩
  obtain ⟨A12, c12, A13, c13, A14, c14, A15, c15, A21, c21, ⟨l12, _, l14, _, _⟩, ⟨r12, q12⟩, _, ⟨r14, q14⟩, _, _⟩ := IsMsg.lists H.out.f.2
  have kw := (blk_cell H.out.f.1.2 12).trans l12
  have kcode := bx_code H.out.f.1.2 H.out.f.2
  have kaddr := bx_addr H.out.f.1.2 H.out.f.2
  have kand := bx_and H.out.f.1.2 H.out.f.2
  have kor := bx_or H.out.f.1.2 H.out.f.2
  have n0_ := Aside0.mk ((H.out).add (sta_C _ _ _ _) (r12))
  clear H
  have H := n0_
  clear n0_
  have QW := Aside0.mk q12
  clear l12 r12 q12 l14 r14 q14
  obtain ⟨w2, w3, w4, u8_, u16a, u16b, u16c⟩ := nums_of hw
  have HA := Aside0.mk (And.intro a2 (And.intro a3 (And.intro a4 (And.intro a5 (And.intro a6 a7)))))
  have HWS := Aside0.mk hws
  have HWL := Aside0.mk hw
  clear a0 a1 a2 a3 a4 a5 a6 a7 a8 a9 a10 a11 adt hws hm hk hd
  go_enter Try.func32, Try.ntmps32
  go_upto_region 2 with (fail)
  go_upto_region 3 with (first | ((with_reducible refine gate_dst (N := 16) rfl ?_); (try (refine gate_guard (by rfl) ?_; dsimp only)); refine ev_lit .u8 [(2 * (m.words.length : Int)) % 256] 5 rfl (by first | (go_simp; done) | (go_simp; rfl)) (by simp) ?_; intro As cs wls bs he_ hr_ hz_ hb_; have Zs := Aside0.mk hz_; have Es := Aside0.mk he_; have n0_ := Aside0.mk ((H.out.on hb_).add (sta_C _ _ _ _) (hr_)); clear H; have H := n0_; clear n0_; have n0_ := (hb_.cell (World.block_lt_of_cell? _ _ kw)).trans kw; clear kw; have kw := n0_; clear n0_; have n0_ := (hb_.cell (World.block_lt_of_cell? _ _ kcode)).trans kcode; clear kcode; have kcode := n0_; clear n0_; have n0_ := (hb_.cell (World.block_lt_of_cell? _ _ kaddr)).trans kaddr; clear kaddr; have kaddr := n0_; clear n0_; have n0_ := (hb_.cell (World.block_lt_of_cell? _ _ kand)).trans kand; clear kand; have kand := n0_; clear n0_; have n0_ := (hb_.cell (World.block_lt_of_cell? _ _ kor)).trans kor; clear kor; have kor := n0_; clear n0_; clear hr_ hz_ hb_ he_) | (go_at_call 55; (with_reducible refine (put_b (ws := m.words) rfl HWS.out (by have := HWL.out; omega) H.out.f.1.2 QW.out).mono ?_); rintro en wqp ⟨Aqp, cqp, rfl, hz_, hr_, hb_⟩; have n0_ := (hb_.cell (World.block_lt_of_cell? _ _ kw)).trans kw; clear kw; have kw := n0_; clear n0_; have n0_ := (hb_.cell (World.block_lt_of_cell? _ _ kcode)).trans kcode; clear kcode; have kcode := n0_; clear n0_; have n0_ := (hb_.cell (World.block_lt_of_cell? _ _ kaddr)).trans kaddr; clear kaddr; have kaddr := n0_; clear n0_; have n0_ := (hb_.cell (World.block_lt_of_cell? _ _ kand)).trans kand; clear kand; have kand := n0_; clear n0_; have n0_ := (hb_.cell (World.block_lt_of_cell? _ _ kor)).trans kor; clear kor; have kor := n0_; clear n0_; have n0_ := Aside0.mk ((H.out.on hb_).add (sta_C _ _ _ _) (hr_)); clear H; have H := n0_; clear n0_; have Zp := Aside0.mk hz_; clear hb_ hz_ hr_))
  go_upto_region 10 with (fail)
  go_wp2_with (first | ((with_reducible refine gate_dst (N := 60) rfl ?_); (try (refine gate_guard (by rfl) ?_; dsimp only)); refine ev_lit .u16 [m.addr, m.and_, m.or_] 24 rfl (by first | (go_simp; done) | (go_simp; rfl)) (by simp) ?_; intro Ah ch wlh bh he_ hr_ hz_ hb_; have Zh := Aside0.mk hz_; have Eh := Aside0.mk he_; have n0_ := Aside0.mk ((H.out.on hb_).add (sta_C _ _ _ _) (hr_)); clear H; have H := n0_; clear n0_; have n0_ := (hb_.cell (World.block_lt_of_cell? _ _ kw)).trans kw; clear kw; have kw := n0_; clear n0_; have n0_ := (hb_.cell (World.block_lt_of_cell? _ _ kcode)).trans kcode; clear kcode; have kcode := n0_; clear n0_; have n0_ := (hb_.cell (World.block_lt_of_cell? _ _ kaddr)).trans kaddr; clear kaddr; have kaddr := n0_; clear n0_; have n0_ := (hb_.cell (World.block_lt_of_cell? _ _ kand)).trans kand; clear kand; have kand := n0_; clear n0_; have n0_ := (hb_.cell (World.block_lt_of_cell? _ _ kor)).trans kor; clear kor; have kor := n0_; clear n0_; clear hr_ hz_ hb_ he_) | (go_at_call 55; (with_reducible refine (put_b (ws := bh) rfl (by rw [Eh.out]; exact is16_3 HA.out.1 HA.out.2.2.2.1 HA.out.2.2.2.2.1) (by rw [Eh.out]; simp) H.out.f.2 Zh.out).mono ?_); rintro en wqq ⟨Aqq, cqq, rfl, hz_, hr_, hb_⟩; have n0_ := (hb_.cell (World.block_lt_of_cell? _ _ kw)).trans kw; clear kw; have kw := n0_; clear n0_; have n0_ := (hb_.cell (World.block_lt_of_cell? _ _ kcode)).trans kcode; clear kcode; have kcode := n0_; clear n0_; have n0_ := (hb_.cell (World.block_lt_of_cell? _ _ kaddr)).trans kaddr; clear kaddr; have kaddr := n0_; clear n0_; have n0_ := (hb_.cell (World.block_lt_of_cell? _ _ kand)).trans kand; clear kand; have kand := n0_; clear n0_; have n0_ := (hb_.cell (World.block_lt_of_cell? _ _ kor)).trans kor; clear kor; have kor := n0_; clear n0_; have n0_ := Aside0.mk ((H.out.on hb_).add (sta_C _ _ _ _) (hr_)); clear H; have H := n0_; clear n0_; have Zq := Aside0.mk hz_; clear hb_ hz_ hr_))
  go_ret
  rw [EX.out, ← Eh.out]
  exact ⟨Aqq, cqq, rfl, Zq.out, H.out.f.2, H.out.b⟩
theorem lay_23_2 {dir : Int} {m : Msg} {cx : Array Value} {w : World} (hm : IsMsg w cx m) (hw : m.words.length ≤ 400000) (hk : m.code = 23) (hd : dir ≠ 0) :
    Calls Try.prog 32 #[.int .i64 dir, .agg cx] w fun en w' => ∃ A c, en = .returned (.slice A (lay dir m).length c) ∧ (lay dir m).length ≤ c ∧ Kd.C (Kd.int .u8) w' A (lay dir m).length (lay dir m) ∧ Below w.heap.size w w' := by
  obtain ⟨⟨a0, a1, a2, a3, a4, a5, a6, a7, a8, a9, a10, a11, _⟩, adt, _⟩ := goodM_num hm.good
  have hws : is16 m.words := hm.good.2.1
  have H := Aside0.mk (Hd.start w)
  have hsz := hm.size
  have hix := msg_info hsz
  have n0_ := Aside0.mk ((((H.out.on (below_alloc (Below.refl _ _) (Obj.cells cx 30)))).add (sta_blk _ _) (blk_new _ _)).add (sta_msg _ _) (hm.on (below_alloc (Below.refl _ _) _)))
  clear H
  have H := n0_
  clear n0_
  obtain ⟨b3, b4, b6, b16, b22, b23, b24⟩ := codes_23 hk
  have d0 := dirs_2 hd
  have EX : Aside0 (lay dir m = told m) := ⟨by unfold lay; (repeat' split) <;> first | rfl | (exfalso; omega)⟩
  obtain ⟨A12, c12, A13, c13, A14, c14, A15, c15, A21, c21, ⟨l12, _, l14, _, _⟩, ⟨r12, q12⟩, _, ⟨r14, q14⟩, _, _⟩ := IsMsg.lists H.out.f.2
  have kw := (blk_cell H.out.f.1.2 12).trans l12
  have kcode := bx_code H.out.f.1.2 H.out.f.2
  have n0_ := Aside0.mk ((H.out).add (sta_C _ _ _ _) (r12))
  clear H
  have H := n0_
  clear n0_
  have QW := Aside0.mk q12
  clear l12 r12 q12 l14 r14 q14
  obtain ⟨w2, w3, w4, u8_, u16a, u16b, u16c⟩ := nums_of hw
  have HA := Aside0.mk (And.intro a2 (And.intro a3 (And.intro a4 (And.intro a5 (And.intro a6 a7)))))
  have HWS := Aside0.mk hws
  have HWL := Aside0.mk hw
  clear a0 a1 a2 a3 a4 a5 a6 a7 a8 a9 a10 a11 adt hws hm hk hd
  go_enter Try.func32, Try.ntmps32
  go_upto_region 2 with (fail)
  go_upto_region 3 with (first | ((with_reducible refine gate_dst (N := 16) rfl ?_); (try (refine gate_guard (by rfl) ?_; dsimp only)); refine Com.ev_rlit .u8 [(2 * (m.words.length : Int)) % 256] 5 rfl rfl (by first | (go_simp; done) | (go_simp; rfl)) (by simp) ?_; intro vr wr hr_ hb_; have HSr := H; have n0_ := Aside0.mk (H.out.on hb_); clear H; have H := n0_; clear n0_; have n0_ := (hb_.cell (World.block_lt_of_cell? _ _ kw)).trans kw; clear kw; have kw := n0_; clear n0_; have n0_ := (hb_.cell (World.block_lt_of_cell? _ _ kcode)).trans kcode; clear kcode; have kcode := n0_; clear n0_; have Rr := Aside0.mk hr_; have Br := Aside0.mk hb_; obtain ⟨Ar, cr, ev_, _, _⟩ := Kd.R_reads hr_; subst ev_; clear hb_ hr_) | (go_at_call 55; (with_reducible refine (put_b (ws := m.words) rfl HWS.out (by have := HWL.out; omega) H.out.f.2 QW.out).mono ?_); rintro en wqp ⟨Aqp, cqp, rfl, hz_, hr_, hb_⟩; have n0_ := Aside0.mk (Kd.R_below Rr.out hb_); have n1_ := Aside0.mk (Br.out.trans (hb_.mono Br.out.size)); clear Rr Br; have Rr := n0_; have Br := n1_; clear n0_ n1_; have n0_ := (hb_.cell (World.block_lt_of_cell? _ _ kw)).trans kw; clear kw; have kw := n0_; clear n0_; have n0_ := (hb_.cell (World.block_lt_of_cell? _ _ kcode)).trans kcode; clear kcode; have kcode := n0_; clear n0_; have n0_ := Aside0.mk ((H.out.on hb_).add (sta_C _ _ _ _) (hr_)); clear H; have H := n0_; clear n0_; have Zp := Aside0.mk hz_; clear hb_ hz_ hr_))
  go_upto_region 6 with (fail)
  have hl1 := told_len m
  go_wp2_with (first | ((with_reducible refine gate_builtin (b := .append) (xs := #[.tmp 39, .tmp 40]) rfl ?_); at_builtin; (try (refine gate_guard (by rfl) ?_; dsimp only)); have hl_ : (told m).length ≤ 1000000 := (by first | omega | (simp only [List.length_append, List.length_cons, List.length_nil, putL_length]; omega) | (have h1_ := congrArg List.length Eh.out; simp only [List.length_cons, List.length_nil] at h1_; simp only [List.length_append, List.length_cons, List.length_nil, putL_length]; first | omega | (have h2_ := congrArg List.length Es.out; simp only [List.length_cons, List.length_nil] at h2_; omega))); refine Com.ev_app .u8 5 (.tmp 39) (.tmp 40) 22 1 rfl rfl Try.underlying22 (by kernel_rfl) (by decide) (by decide) rfl rfl Rr.out (H.out.f.2) Br.out (Nat.le_trans (Nat.le_of_eq List.length_append.symm) hl_) (zs := told m) (n := (told m).length) (by first | rfl | simp) (by first | rfl | simp) ?_; intro v1_ Ay cy wapy e1_ hR_ hC_ hz_ hb_; subst e1_; have n0_ := Aside0.mk (HSr.out.on hb_); clear H; have H := n0_; clear n0_; have HSy := HSr; have Ry := Aside0.mk hR_; have By := Aside0.mk hb_; have Zy := Aside0.mk hz_; have Cy := Aside0.mk hC_; clear hR_ hC_ hz_ hb_ hl_))
  go_ret
  rw [EX.out]
  exact ⟨Ay, cy, by rw [told_len]; rfl, Zy.out, Cy.out, (HSy.out.on By.out).b⟩
theorem lay_24_2 {dir : Int} {m : Msg} {cx : Array Value} {w : World} (hm : IsMsg w cx m) (hw : m.words.length ≤ 400000) (hk : m.code = 24) (hd : dir ≠ 0) :
    Calls Try.prog 32 #[.int .i64 dir, .agg cx] w fun en w' => ∃ A c, en = .returned (.slice A (lay dir m).length c) ∧ (lay dir m).length ≤ c ∧ Kd.C (Kd.int .u8) w' A (lay dir m).length (lay dir m) ∧ Below w.heap.size w w' := by
  obtain ⟨⟨a0, a1, a2, a3, a4, a5, a6, a7, a8, a9, a10, a11, _⟩, adt, _⟩ := goodM_num hm.good
  have hws : is16 m.words := hm.good.2.1
  have H := Aside0.mk (Hd.start w)
  have hsz := hm.size
  have hix := msg_info hsz
  have n0_ := Aside0.mk ((((H.out.on (below_alloc (Below.refl _ _) (Obj.cells cx 30)))).add (sta_blk _ _) (blk_new _ _)).add (sta_msg _ _) (hm.on (below_alloc (Below.refl _ _) _)))
  clear H
  have H := n0_
  clear n0_
  obtain ⟨b3, b4, b6, b16, b22, b23, b24⟩ := codes_24 hk
  have d0 := dirs_2 hd
  have EX : Aside0 (lay dir m = putL [(2 + 2 * (m.words.length : Int)) % 65536, (m.words.length : Int) % 65536] ++ putL m.words) := ⟨by unfold lay; (repeat' split) <;> first | rfl | (exfalso; omega)⟩
  obtain ⟨A12, c12, A13, c13, A14, c14, A15, c15, A21, c21, ⟨l12, _, l14, _, _⟩, ⟨r12, q12⟩, _, ⟨r14, q14⟩, _, _⟩ := IsMsg.lists H.out.f.2
  have kw := (blk_cell H.out.f.1.2 12).trans l12
  have kcode := bx_code H.out.f.1.2 H.out.f.2
  have n0_ := Aside0.mk ((H.out).add (sta_C _ _ _ _) (r12))
  clear H
  have H := n0_
  clear n0_
  have QW := Aside0.mk q12
  clear l12 r12 q12 l14 r14 q14
  obtain ⟨w2, w3, w4, u8_, u16a, u16b, u16c⟩ := nums_of hw
  have HA := Aside0.mk (And.intro a2 (And.intro a3 (And.intro a4 (And.intro a5 (And.intro a6 a7)))))
  have HWS := Aside0.mk hws
  have HWL := Aside0.mk hw
  clear a0 a1 a2 a3 a4 a5 a6 a7 a8 a9 a10 a11 adt hws hm hk hd
  go_enter Try.func32, Try.ntmps32
  go_upto_region 2 with (fail)
  go_upto_region 3 with (first | ((with_reducible refine gate_dst (N := 16) rfl ?_); (try (refine gate_guard (by rfl) ?_; dsimp only)); refine ev_lit .u8 [(2 * (m.words.length : Int)) % 256] 5 rfl (by first | (go_simp; done) | (go_simp; rfl)) (by simp) ?_; intro As cs wls bs he_ hr_ hz_ hb_; have Zs := Aside0.mk hz_; have Es := Aside0.mk he_; have n0_ := Aside0.mk ((H.out.on hb_).add (sta_C _ _ _ _) (hr_)); clear H; have H := n0_; clear n0_; have n0_ := (hb_.cell (World.block_lt_of_cell? _ _ kw)).trans kw; clear kw; have kw := n0_; clear n0_; have n0_ := (hb_.cell (World.block_lt_of_cell? _ _ kcode)).trans kcode; clear kcode; have kcode := n0_; clear n0_; clear hr_ hz_ hb_ he_) | (go_at_call 55; (with_reducible refine (put_b (ws := m.words) rfl HWS.out (by have := HWL.out; omega) H.out.f.1.2 QW.out).mono ?_); rintro en wqp ⟨Aqp, cqp, rfl, hz_, hr_, hb_⟩; have n0_ := (hb_.cell (World.block_lt_of_cell? _ _ kw)).trans kw; clear kw; have kw := n0_; clear n0_; have n0_ := (hb_.cell (World.block_lt_of_cell? _ _ kcode)).trans kcode; clear kcode; have kcode := n0_; clear n0_; have n0_ := Aside0.mk ((H.out.on hb_).add (sta_C _ _ _ _) (hr_)); clear H; have H := n0_; clear n0_; have Zp := Aside0.mk hz_; clear hb_ hz_ hr_))
  go_upto_region 18 with (fail)
  go_wp2_with (first | ((with_reducible refine gate_dst (N := 114) rfl ?_); (try (refine gate_guard (by rfl) ?_; dsimp only)); refine ev_lit .u16 [(2 + 2 * (m.words.length : Int)) % 65536, (m.words.length : Int) % 65536] 24 rfl (by first | (go_simp; done) | (go_simp; rfl)) (by simp) ?_; intro Ah ch wlh bh he_ hr_ hz_ hb_; have Zh := Aside0.mk hz_; have Eh := Aside0.mk he_; have n0_ := Aside0.mk ((H.out.on hb_).add (sta_C _ _ _ _) (hr_)); clear H; have H := n0_; clear n0_; have n0_ := (hb_.cell (World.block_lt_of_cell? _ _ kw)).trans kw; clear kw; have kw := n0_; clear n0_; have n0_ := (hb_.cell (World.block_lt_of_cell? _ _ kcode)).trans kcode; clear kcode; have kcode := n0_; clear n0_; clear hr_ hz_ hb_ he_) | (go_at_call 55; (with_reducible refine (put_r (ws := bh) rfl (by rw [Eh.out]; exact is16_2 (by omega) (by omega)) (by rw [Eh.out]; simp) H.out.f.2 Zh.out).mono ?_); rintro en wqr ⟨vr, rfl, hr_, hb_⟩; have HSr := H; have n0_ := Aside0.mk (H.out.on hb_); clear H; have H := n0_; clear n0_; have n0_ := (hb_.cell (World.block_lt_of_cell? _ _ kw)).trans kw; clear kw; have kw := n0_; clear n0_; have n0_ := (hb_.cell (World.block_lt_of_cell? _ _ kcode)).trans kcode; clear kcode; have kcode := n0_; clear n0_; have Rr := Aside0.mk hr_; have Br := Aside0.mk hb_; obtain ⟨Ar, cr, ev_, _, _⟩ := Kd.R_reads hr_; subst ev_; clear hb_ hr_) | ((with_reducible refine gate_builtin (b := .append) (xs := #[.tmp 115, .tmp 116]) rfl ?_); at_builtin; (try (refine gate_guard (by rfl) ?_; dsimp only)); obtain ⟨ny, hnt_⟩ : ∃ z, z = (putL bh ++ putL m.words).length := ⟨_, rfl⟩; have hl_ : (putL bh ++ putL m.words).length ≤ 1000000 := (by first | omega | (simp only [List.length_append, List.length_cons, List.length_nil, putL_length]; omega) | (have h1_ := congrArg List.length Eh.out; simp only [List.length_cons, List.length_nil] at h1_; simp only [List.length_append, List.length_cons, List.length_nil, putL_length]; first | omega | (have h2_ := congrArg List.length Es.out; simp only [List.length_cons, List.length_nil] at h2_; omega))); refine Com.ev_app .u8 5 (.tmp 115) (.tmp 116) 22 1 rfl rfl Try.underlying22 (by kernel_rfl) (by decide) (by decide) rfl rfl Rr.out (H.out.f.1.2) Br.out (Nat.le_trans (Nat.le_of_eq List.length_append.symm) hl_) (zs := putL bh ++ putL m.words) (n := ny) (by first | rfl | simp) hnt_.symm ?_; intro v1_ Ay cy wapy e1_ hR_ hC_ hz_ hb_; subst e1_; have n0_ := Aside0.mk (HSr.out.on hb_); clear H; have H := n0_; clear n0_; have HSy := HSr; have Ry := Aside0.mk hR_; have By := Aside0.mk hb_; have Zy := Aside0.mk hz_; have Cy := Aside0.mk hC_; clear hR_ hC_ hz_ hb_ hl_; have Ny := Aside0.mk hnt_; clear hnt_))
  go_ret
  have ez : (putL bh ++ putL m.words) = putL [(2 + 2 * (m.words.length : Int)) % 65536, (m.words.length : Int) % 65536] ++ putL m.words := by rw [Eh.out]; first | done | (unfold told sz; first | rfl | (rw [List.append_assoc]))
  rw [EX.out, ← ez]
  exact ⟨Ay, cy, by rw [← Ny.out]; rfl, by rw [← Ny.out]; exact Zy.out, by rw [← Ny.out]; exact Cy.out, (HSy.out.on By.out).b⟩
theorem lay_no_2 {dir : Int} {m : Msg} {cx : Array Value} {w : World} (hm : IsMsg w cx m) (hw : m.words.length ≤ 400000) (hk : m.code ≠ 3 ∧ m.code ≠ 4 ∧ m.code ≠ 6 ∧ m.code ≠ 16 ∧ m.code ≠ 22 ∧ m.code ≠ 23 ∧ m.code ≠ 24) (hd : dir ≠ 0) :
    Calls Try.prog 32 #[.int .i64 dir, .agg cx] w fun en w' => ∃ A c, en = .returned (.slice A (lay dir m).length c) ∧ (lay dir m).length ≤ c ∧ Kd.C (Kd.int .u8) w' A (lay dir m).length (lay dir m) ∧ Below w.heap.size w w' := by
  obtain ⟨⟨a0, a1, a2, a3, a4, a5, a6, a7, a8, a9, a10, a11, _⟩, adt, _⟩ := goodM_num hm.good
  have hws : is16 m.words := hm.good.2.1
  have H := Aside0.mk (Hd.start w)
  have hsz := hm.size
  have hix := msg_info hsz
  have n0_ := Aside0.mk ((((H.out.on (below_alloc (Below.refl _ _) (Obj.cells cx 30)))).add (sta_blk _ _) (blk_new _ _)).add (sta_msg _ _) (hm.on (below_alloc (Below.refl _ _) _)))
  clear H
  have H := n0_
  clear n0_
  obtain ⟨b3, b4, b6, b16, b22, b23, b24⟩ := codes_no hk
  have d0 := dirs_2 hd
  have EX : Aside0 (lay dir m = putL [m.addr, m.count]) := ⟨by unfold lay; (repeat' split) <;> first | rfl | (exfalso; omega)⟩
  obtain ⟨A12, c12, A13, c13, A14, c14, A15, c15, A21, c21, ⟨l12, _, l14, _, _⟩, ⟨r12, q12⟩, _, ⟨r14, q14⟩, _, _⟩ := IsMsg.lists H.out.f.2
  have kw := (blk_cell H.out.f.1.2 12).trans l12
  have kcode := bx_code H.out.f.1.2 H.out.f.2
  have kaddr := bx_addr H.out.f.1.2 H.out.f.2
  have kcount := bx_count H.out.f.1.2 H.out.f.2
  have n0_ := Aside0.mk ((H.out).add (sta_C _ _ _ _) (r12))
  clear H
  have H := n0_
  clear n0_
  have QW := Aside0.mk q12
  clear l12 r12 q12 l14 r14 q14
  obtain ⟨w2, w3, w4, u8_, u16a, u16b, u16c⟩ := nums_of hw
  have HA := Aside0.mk (And.intro a2 (And.intro a3 (And.intro a4 (And.intro a5 (And.intro a6 a7)))))
  have HWS := Aside0.mk hws
  have HWL := Aside0.mk hw
  clear a0 a1 a2 a3 a4 a5 a6 a7 a8 a9 a10 a11 adt hws hm hk hd
  go_enter Try.func32, Try.ntmps32
  go_upto_region 2 with (fail)
  go_upto_region 3 with (first | ((with_reducible refine gate_dst (N := 16) rfl ?_); (try (refine gate_guard (by rfl) ?_; dsimp only)); refine ev_lit .u8 [(2 * (m.words.length : Int)) % 256] 5 rfl (by first | (go_simp; done) | (go_simp; rfl)) (by simp) ?_; intro As cs wls bs he_ hr_ hz_ hb_; have Zs := Aside0.mk hz_; have Es := Aside0.mk he_; have n0_ := Aside0.mk ((H.out.on hb_).add (sta_C _ _ _ _) (hr_)); clear H; have H := n0_; clear n0_; have n0_ := (hb_.cell (World.block_lt_of_cell? _ _ kw)).trans kw; clear kw; have kw := n0_; clear n0_; have n0_ := (hb_.cell (World.block_lt_of_cell? _ _ kcode)).trans kcode; clear kcode; have kcode := n0_; clear n0_; have n0_ := (hb_.cell (World.block_lt_of_cell? _ _ kaddr)).trans kaddr; clear kaddr; have kaddr := n0_; clear n0_; have n0_ := (hb_.cell (World.block_lt_of_cell? _ _ kcount)).trans kcount; clear kcount; have kcount := n0_; clear n0_; clear hr_ hz_ hb_ he_) | (go_at_call 55; (with_reducible refine (put_b (ws := m.words) rfl HWS.out (by have := HWL.out; omega) H.out.f.1.2 QW.out).mono ?_); rintro en wqp ⟨Aqp, cqp, rfl, hz_, hr_, hb_⟩; have n0_ := (hb_.cell (World.block_lt_of_cell? _ _ kw)).trans kw; clear kw; have kw := n0_; clear n0_; have n0_ := (hb_.cell (World.block_lt_of_cell? _ _ kcode)).trans kcode; clear kcode; have kcode := n0_; clear n0_; have n0_ := (hb_.cell (World.block_lt_of_cell? _ _ kaddr)).trans kaddr; clear kaddr; have kaddr := n0_; clear n0_; have n0_ := (hb_.cell (World.block_lt_of_cell? _ _ kcount)).trans kcount; clear kcount; have kcount := n0_; clear n0_; have n0_ := Aside0.mk ((H.out.on hb_).add (sta_C _ _ _ _) (hr_)); clear H; have H := n0_; clear n0_; have Zp := Aside0.mk hz_; clear hb_ hz_ hr_))
  go_upto_region 19 with (fail)
  go_wp2_with (first | ((with_reducible refine gate_dst (N := 122) rfl ?_); (try (refine gate_guard (by rfl) ?_; dsimp only)); refine ev_lit .u16 [m.addr, m.count] 24 rfl (by first | (go_simp; done) | (go_simp; rfl)) (by simp) ?_; intro Ah ch wlh bh he_ hr_ hz_ hb_; have Zh := Aside0.mk hz_; have Eh := Aside0.mk he_; have n0_ := Aside0.mk ((H.out.on hb_).add (sta_C _ _ _ _) (hr_)); clear H; have H := n0_; clear n0_; have n0_ := (hb_.cell (World.block_lt_of_cell? _ _ kw)).trans kw; clear kw; have kw := n0_; clear n0_; have n0_ := (hb_.cell (World.block_lt_of_cell? _ _ kcode)).trans kcode; clear kcode; have kcode := n0_; clear n0_; have n0_ := (hb_.cell (World.block_lt_of_cell? _ _ kaddr)).trans kaddr; clear kaddr; have kaddr := n0_; clear n0_; have n0_ := (hb_.cell (World.block_lt_of_cell? _ _ kcount)).trans kcount; clear kcount; have kcount := n0_; clear n0_; clear hr_ hz_ hb_ he_) | (go_at_call 55; (with_reducible refine (put_b (ws := bh) rfl (by rw [Eh.out]; exact is16_2 HA.out.1 HA.out.2.1) (by rw [Eh.out]; simp) H.out.f.2 Zh.out).mono ?_); rintro en wqq ⟨Aqq, cqq, rfl, hz_, hr_, hb_⟩; have n0_ := (hb_.cell (World.block_lt_of_cell? _ _ kw)).trans kw; clear kw; have kw := n0_; clear n0_; have n0_ := (hb_.cell (World.block_lt_of_cell? _ _ kcode)).trans kcode; clear kcode; have kcode := n0_; clear n0_; have n0_ := (hb_.cell (World.block_lt_of_cell? _ _ kaddr)).trans kaddr; clear kaddr; have kaddr := n0_; clear n0_; have n0_ := (hb_.cell (World.block_lt_of_cell? _ _ kcount)).trans kcount; clear kcount; have kcount := n0_; clear n0_; have n0_ := Aside0.mk ((H.out.on hb_).add (sta_C _ _ _ _) (hr_)); clear H; have H := n0_; clear n0_; have Zq := Aside0.mk hz_; clear hb_ hz_ hr_))
  go_ret
  rw [EX.out, ← Eh.out]
  exact ⟨Aqq, cqq, rfl, Zq.out, H.out.f.2, H.out.b⟩
theorem lay_c {dir : Int} {m : Msg} {cx : Array Value} {w : World} (hm : IsMsg w cx m) (hw : m.words.length ≤ 400000) :
    Calls Try.prog 32 #[.int .i64 dir, .agg cx] w fun en w' => ∃ A c, en = .returned (.slice A (lay dir m).length c) ∧ (lay dir m).length ≤ c ∧ Kd.C (Kd.int .u8) w' A (lay dir m).length (lay dir m) ∧ Below w.heap.size w w' := by
  by_cases d0 : dir = 0
  · by_cases k3 : m.code = 3
    · exact lay_3_0 hm hw k3 d0
    by_cases k4 : m.code = 4
    · exact lay_4_0 hm hw k4 d0
    by_cases k6 : m.code = 6
    · exact lay_6_0 hm hw k6 d0
    by_cases k16 : m.code = 16
    · exact lay_16_0 hm hw k16 d0
    by_cases k22 : m.code = 22
    · exact lay_22_0 hm hw k22 d0
    by_cases k23 : m.code = 23
    · exact lay_23_0 hm hw k23 d0
    by_cases k24 : m.code = 24
    · exact lay_24_0 hm hw k24 d0
    exact lay_no_0 hm hw ⟨k3, k4, k6, k16, k22, k23, k24⟩ d0
  · by_cases k3 : m.code = 3
    · exact lay_3_2 hm hw k3 d0
    by_cases k4 : m.code = 4
    · exact lay_4_2 hm hw k4 d0
    by_cases k6 : m.code = 6
    · exact lay_6_2 hm hw k6 d0
    by_cases k16 : m.code = 16
    · exact lay_16_2 hm hw k16 d0
    by_cases k22 : m.code = 22
    · exact lay_22_2 hm hw k22 d0
    by_cases k23 : m.code = 23
    · exact lay_23_2 hm hw k23 d0
    by_cases k24 : m.code = 24
    · exact lay_24_2 hm hw k24 d0
    exact lay_no_2 hm hw ⟨k3, k4, k6, k16, k22, k23, k24⟩ d0
end Go.Proofs.Ytmglilncdffbkaa.Reg
end
section
namespace Go.Proofs.Ytmglilncdffbkaa.Reg
open Go.RowKit Go.Proofs.Ytmglilncdffbkaa.P Go.Proofs.Ytmglilncdffbkaa.E Go.Proofs.Ytmglilncdffbkaa.Same Go.Proofs.Ytmglilncdffbkaa.Put Go.Proofs.Ytmglilncdffbkaa.Com Go.Proofs.YtmglilncdffbkaaW.PrintWords Go.Proofs.YtmglilncdffbkaaW.PrintLast Go.Proofs.YtmglilncdffbkaaW.PrintMore
end Go.Proofs.Ytmglilncdffbkaa.Reg
end
section
namespace Go.Proofs.Ytmglilncdffbkaa.Reg
open Go.RowKit Go.Proofs.Ytmglilncdffbkaa.P Go.Proofs.Ytmglilncdffbkaa.E Go.Proofs.Ytmglilncdffbkaa.Cur Go.Proofs.Ytmglilncdffbkaa.Cu Go.Proofs.Ytmglilncdffbkaa.Same Go.Proofs.Ytmglilncdffbkaa.Put Go.Proofs.Ytmglilncdffbkaa.Com Go.Proofs.YtmglilncdffbkaaW.PrintWords Go.Proofs.YtmglilncdffbkaaW.PrintLast Go.Proofs.YtmglilncdffbkaaW.PrintMore
theorem isBytes_app {a b : List Int} (ha : isBytes a) (hb : isBytes b) : isBytes (a ++ b) := fun x hx => by
  rcases List.mem_append.1 hx with h | h
  · exact ha x h
  · exact hb x h
theorem told_bytes (m : Msg) : isBytes (told m) := isBytes_app (fun x hx => by rw [List.mem_singleton.1 hx]; omega) (putL_bytes _)
theorem lay_bytes {dir : Int} {m : Msg} : isBytes (lay dir m) := by
  unfold lay
  (repeat' split) <;> first | exact told_bytes _ | exact putL_bytes _ | exact isBytes_app (putL_bytes _) (told_bytes _) | exact isBytes_app (putL_bytes _) (putL_bytes _)
theorem lay_len {dir : Int} {m : Msg} (hb : m.words.length ≤ 1000) : (lay dir m).length ≤ 3000 := by
  unfold lay
  (repeat' split) <;> simp only [told_len, putL_length, List.length_append, List.length_cons, List.length_nil] <;> omega
theorem parse_c {dir code : Int} {l : List Int} (hs : l.length ≤ 1000000) (hb : isBytes l) (hc : 0 ≤ code ∧ code < 256) : ParseC 12 dir code l (parse dir code l) := fun A c W hr hc2 => parse_any hr hc2 hs hb hc
def write (dir : Int) (m : Msg) : List Int × Int := writeR m (lay dir m) (parse dir m.code (lay dir m))
theorem write_c {dir : Int} {m : Msg} (hb : m.words.length ≤ 1000) (hg : goodM m) : WriteC 16 dir m (write dir m) := write_of (fun cx W hm => lay_c hm (by omega)) (parse_c (by have := lay_len (dir := dir) hb; omega) lay_bytes (goodM_num hg).1.1)
theorem parse_ok {dir code : Int} {b : List Int} (h : (parse dir code b).2 = 0) : (dir = 0 ∨ dir = 1) ∧ isCode code ∧ (bodyR dir { zeroM with code := code } (cu b)).1.fin.e = 0 ∧ parse dir code b = ((bodyR dir { zeroM with code := code } (cu b)).2, 0) := by
  unfold parse at h ⊢
  by_cases h1 : dir ≠ 0 ∧ dir ≠ 1
  · rw [if_pos h1] at h; exact absurd h (by decide)
  rw [if_neg h1] at h ⊢
  by_cases h2 : ¬ isCode code
  · rw [if_pos h2] at h; exact absurd h (by decide)
  rw [if_neg h2] at h ⊢
  by_cases h3 : (bodyR dir { zeroM with code := code } (cu b)).1.fin.e ≠ 0
  · rw [if_pos h3] at h; exact absurd h h3
  rw [if_neg h3]
  exact ⟨by omega, by simpa using h2, by simpa using h3, rfl⟩
theorem parse_of {dir code : Int} {b : List Int} (hd : dir = 0 ∨ dir = 1) (hc : isCode code) (h : (bodyR dir { zeroM with code := code } (cu b)).1.fin.e = 0) : parse dir code b = ((bodyR dir { zeroM with code := code } (cu b)).2, 0) := by
  unfold parse
  rw [if_neg (by omega), if_neg (fun hn => hn hc), if_neg (by simpa using h)]
theorem writeR_ok {m : Msg} {l : List Int} {P : Msg × Int} (h : (writeR m l P).2 = 0) : P.2 = 0 ∧ P.1 = m ∧ writeR m l P = (l, 0) := by
  unfold writeR at h ⊢
  by_cases hc : P.2 = 0 ∧ sameB P.1 m = true
  · rw [if_pos hc]
    exact ⟨hc.1, (same_eq _ _).1 hc.2, rfl⟩
  · rw [if_neg hc] at h
    exact absurd h (by decide)
theorem writeR_no {m : Msg} {l : List Int} {P : Msg × Int} (h : (writeR m l P).2 ≠ 0) : writeR m l P = ([], 1) := by
  unfold writeR at h ⊢
  by_cases hc : P.2 = 0 ∧ sameB P.1 m = true
  · rw [if_pos hc] at h
    exact absurd rfl h
  · rw [if_neg hc]
theorem writeR_eq {m : Msg} {l : List Int} {P : Msg × Int} (h : P = (m, 0)) : writeR m l P = (l, 0) := by
  unfold writeR
  rw [h, if_pos ⟨rfl, same_refl m⟩]
end Go.Proofs.Ytmglilncdffbkaa.Reg
end
section
namespace Go.Proofs.Ytmglilncdffbkaa.Reg
open Go.RowKit Go.Proofs.Ytmglilncdffbkaa.P Go.Proofs.Ytmglilncdffbkaa.E Go.Proofs.Ytmglilncdffbkaa.Cur Go.Proofs.Ytmglilncdffbkaa.Cu Go.Proofs.Ytmglilncdffbkaa.Same Go.Proofs.Ytmglilncdffbkaa.Put Go.Proofs.Ytmglilncdffbkaa.Com Go.Proofs.YtmglilncdffbkaaW.PrintWords Go.Proofs.YtmglilncdffbkaaW.PrintLast Go.Proofs.YtmglilncdffbkaaW.PrintMore
theorem bind_assoc {α β γ : Type} (r : Cu → Cu × α) (f : α → (Cu → Cu × β)) (g : β → (Cu → Cu × γ)) : Rd.bind (Rd.bind r f) g = Rd.bind r fun a => Rd.bind (f a) g := rfl
theorem bind_ret {α β : Type} (a : α) (g : α → (Cu → Cu × β)) : Rd.bind (Rd.ret a) g = g a := rfl
theorem put_word {a b : Int} (ha : 0 ≤ a ∧ a < 256) (hb : 0 ≤ b ∧ b < 256) (t : List Int) : (a * 256 + b) / 256 % 256 :: (a * 256 + b) % 256 :: t = a :: b :: t := by
  rw [show (a * 256 + b) / 256 % 256 = a by omega, show (a * 256 + b) % 256 = b by omega]
theorem bytes_cons {x : Int} {t : List Int} (h : isBytes (x :: t)) : (0 ≤ x ∧ x < 256) ∧ isBytes t := ⟨h x List.mem_cons_self, fun y hy => h y (List.mem_cons_of_mem _ hy)⟩
theorem wordv_inv {β : Type} {f : Int → (Cu → Cu × β)} {l : List Int} (hf : ∀ a, Dd (f a)) (hb : isBytes l) (h : (Rd.bind Rd.word f (cu l)).1.e = 0) : ∃ v t, l = v / 256 % 256 :: v % 256 :: t ∧ (0 ≤ v ∧ v < 65536) ∧ isBytes t ∧ Rd.bind Rd.word f (cu l) = f v (cu t) := by
  obtain ⟨a, b, t, rfl, e⟩ := word_inv hf h
  obtain ⟨ba, hb⟩ := bytes_cons hb
  obtain ⟨bb, hb⟩ := bytes_cons hb
  exact ⟨a * 256 + b, t, (put_word ba bb t).symm, by omega, hb, e⟩
theorem bytev_inv {β : Type} {f : Int → (Cu → Cu × β)} {l : List Int} (hf : ∀ a, Dd (f a)) (hb : isBytes l) (h : (Rd.bind Rd.byte f (cu l)).1.e = 0) : ∃ v t, l = v :: t ∧ (0 ≤ v ∧ v < 256) ∧ isBytes t ∧ Rd.bind Rd.byte f (cu l) = f v (cu t) := by
  obtain ⟨a, t, rfl, e⟩ := byte_inv hf h
  obtain ⟨ba, hb⟩ := bytes_cons hb
  exact ⟨a, t, rfl, ba, hb, e⟩
theorem wordsv_inv {β : Type} {f : List Int → (Cu → Cu × β)} {l : List Int} {n : Int} (hf : ∀ a, Dd (f a)) (hb : isBytes l) (h : (Rd.bind (Rd.words n) f (cu l)).1.e = 0) : ∃ ws t, l = putL ws ++ t ∧ ((ws.length : Int) = n ∧ is16 ws) ∧ isBytes t ∧ Rd.bind (Rd.words n) f (cu l) = f ws (cu t) := by
  obtain ⟨h1, h2, e⟩ := words_inv hf h
  have hl : (l.take (2 * n.toNat)).length = 2 * n.toNat := by rw [List.length_take]; omega
  obtain ⟨p1, p2, p3⟩ := words_facts n.toNat (l.take (2 * n.toNat)) hl (fun x hx => hb x (List.mem_of_mem_take hx))
  exact ⟨_, l.drop (2 * n.toNat), by rw [p1, List.take_append_drop], ⟨by omega, p2⟩, fun x hx => hb x (List.mem_of_mem_drop hx), e⟩
theorem wordsv_run {β : Type} (f : List Int → (Cu → Cu × β)) {ws t : List Int} {n : Int} (h : (ws.length : Int) = n ∧ is16 ws) : Rd.bind (Rd.words n) f (cu (putL ws ++ t)) = f ws (cu t) := by
  rw [words_run f (putL ws) t (by rw [putL_length]; omega), words_putL h.2]
theorem where_eq {most : Int} (m : Msg) : whereR most m = Rd.bind Rd.word fun a => Rd.bind Rd.word fun k => Rd.bind (Rd.need (decide (1 ≤ k) && decide (k ≤ most)) 5) fun _ => Rd.bind (Rd.need (withinB a k) 7) fun _ => Rd.ret ({ m with addr := a, count := k } : Msg) := rfl
theorem where_inv {most : Int} {m : Msg} {l : List Int} (hb : isBytes l) (h : (whereR most m (cu l)).1.e = 0) : ∃ (a : Int) (k : Int) (t : List Int), l = a / 256 % 256 :: a % 256 :: k / 256 % 256 :: k % 256 :: t ∧ (0 ≤ a ∧ a < 65536) ∧ (0 ≤ k ∧ k < 65536) ∧ (decide (1 ≤ k) && decide (k ≤ most)) = true ∧ (withinB a k) = true ∧ isBytes t ∧ whereR most m (cu l) = (cu t, ({ m with addr := a, count := k } : Msg)) := by
  rw [where_eq] at h ⊢
  obtain ⟨a, t, rfl, q0, hb, e⟩ := wordv_inv (by intro _; repeat' (with_reducible first | exact Dd.word | exact Dd.byte | exact Dd.need _ _ | exact Dd.words _ | exact Dd.ret _ | refine Dd.bind ?_ fun _ => ?_)) hb h
  rw [e] at h ⊢
  obtain ⟨k, t, rfl, q1, hb, e⟩ := wordv_inv (by intro _; repeat' (with_reducible first | exact Dd.word | exact Dd.byte | exact Dd.need _ _ | exact Dd.words _ | exact Dd.ret _ | refine Dd.bind ?_ fun _ => ?_)) hb h
  rw [e] at h ⊢
  obtain ⟨q2, e⟩ := need_inv (by decide) (by intro _; repeat' (with_reducible first | exact Dd.word | exact Dd.byte | exact Dd.need _ _ | exact Dd.words _ | exact Dd.ret _ | refine Dd.bind ?_ fun _ => ?_)) h
  rw [e] at h ⊢
  obtain ⟨q3, e⟩ := need_inv (by decide) (by intro _; repeat' (with_reducible first | exact Dd.word | exact Dd.byte | exact Dd.need _ _ | exact Dd.words _ | exact Dd.ret _ | refine Dd.bind ?_ fun _ => ?_)) h
  rw [e] at h ⊢
  exact ⟨a, k, t, rfl, q0, q1, q2, q3, hb, rfl⟩
theorem where_run {most : Int} {m : Msg} {a : Int} {k : Int} {t : List Int} (q0 : (0 ≤ a ∧ a < 65536)) (q1 : (0 ≤ k ∧ k < 65536)) (q2 : (decide (1 ≤ k) && decide (k ≤ most)) = true) (q3 : (withinB a k) = true) : whereR most m (cu (a / 256 % 256 :: a % 256 :: k / 256 % 256 :: k % 256 :: t)) = (cu t, ({ m with addr := a, count := k } : Msg)) := by
  rw [where_eq, word_run _ q0, word_run _ q1, need_run _ q2, need_run _ q3]
  rfl
theorem told_eq (m : Msg) : toldR m = Rd.bind Rd.byte fun b => Rd.bind (Rd.need (b % 2 == 0 && (decide (2 ≤ b) && decide (b ≤ 250))) 5) fun _ => Rd.bind (Rd.words (b / 2)) fun ws => Rd.ret ({ m with words := ws } : Msg) := rfl
theorem told_inv {m : Msg} {l : List Int} (hb : isBytes l) (h : (toldR m (cu l)).1.e = 0) : ∃ (b : Int) (ws : List Int) (t : List Int), l = b :: (putL ws ++ t) ∧ (0 ≤ b ∧ b < 256) ∧ (b % 2 == 0 && (decide (2 ≤ b) && decide (b ≤ 250))) = true ∧ ((ws.length : Int) = b / 2 ∧ is16 ws) ∧ isBytes t ∧ toldR m (cu l) = (cu t, ({ m with words := ws } : Msg)) := by
  rw [told_eq] at h ⊢
  obtain ⟨b, t, rfl, q0, hb, e⟩ := bytev_inv (by intro _; repeat' (with_reducible first | exact Dd.word | exact Dd.byte | exact Dd.need _ _ | exact Dd.words _ | exact Dd.ret _ | refine Dd.bind ?_ fun _ => ?_)) hb h
  rw [e] at h ⊢
  obtain ⟨q1, e⟩ := need_inv (by decide) (by intro _; repeat' (with_reducible first | exact Dd.word | exact Dd.byte | exact Dd.need _ _ | exact Dd.words _ | exact Dd.ret _ | refine Dd.bind ?_ fun _ => ?_)) h
  rw [e] at h ⊢
  obtain ⟨ws, t, rfl, q2, hb, e⟩ := wordsv_inv (by intro _; repeat' (with_reducible first | exact Dd.word | exact Dd.byte | exact Dd.need _ _ | exact Dd.words _ | exact Dd.ret _ | refine Dd.bind ?_ fun _ => ?_)) hb h
  rw [e] at h ⊢
  exact ⟨b, ws, t, rfl, q0, q1, q2, hb, rfl⟩
theorem told_run {m : Msg} {b : Int} {ws : List Int} {t : List Int} (q0 : (0 ≤ b ∧ b < 256)) (q1 : (b % 2 == 0 && (decide (2 ≤ b) && decide (b ≤ 250))) = true) (q2 : ((ws.length : Int) = b / 2 ∧ is16 ws)) : toldR m (cu (b :: (putL ws ++ t))) = (cu t, ({ m with words := ws } : Msg)) := by
  rw [told_eq, byte_run, need_run _ q1, wordsv_run _ q2]
  rfl
theorem one_eq (m : Msg) : oneR m = Rd.bind Rd.word fun a => Rd.bind Rd.word fun k => Rd.ret ({ m with addr := a, value := k } : Msg) := rfl
theorem one_inv {m : Msg} {l : List Int} (hb : isBytes l) (h : (oneR m (cu l)).1.e = 0) : ∃ (a : Int) (k : Int) (t : List Int), l = a / 256 % 256 :: a % 256 :: k / 256 % 256 :: k % 256 :: t ∧ (0 ≤ a ∧ a < 65536) ∧ (0 ≤ k ∧ k < 65536) ∧ isBytes t ∧ oneR m (cu l) = (cu t, ({ m with addr := a, value := k } : Msg)) := by
  rw [one_eq] at h ⊢
  obtain ⟨a, t, rfl, q0, hb, e⟩ := wordv_inv (by intro _; repeat' (with_reducible first | exact Dd.word | exact Dd.byte | exact Dd.need _ _ | exact Dd.words _ | exact Dd.ret _ | refine Dd.bind ?_ fun _ => ?_)) hb h
  rw [e] at h ⊢
  obtain ⟨k, t, rfl, q1, hb, e⟩ := wordv_inv (by intro _; repeat' (with_reducible first | exact Dd.word | exact Dd.byte | exact Dd.need _ _ | exact Dd.words _ | exact Dd.ret _ | refine Dd.bind ?_ fun _ => ?_)) hb h
  rw [e] at h ⊢
  exact ⟨a, k, t, rfl, q0, q1, hb, rfl⟩
theorem one_run {m : Msg} {a : Int} {k : Int} {t : List Int} (q0 : (0 ≤ a ∧ a < 65536)) (q1 : (0 ≤ k ∧ k < 65536)) : oneR m (cu (a / 256 % 256 :: a % 256 :: k / 256 % 256 :: k % 256 :: t)) = (cu t, ({ m with addr := a, value := k } : Msg)) := by
  rw [one_eq, word_run _ q0, word_run _ q1]
  rfl
theorem many_eq (m : Msg) : manyR m = Rd.bind Rd.word fun a => Rd.bind Rd.word fun k => Rd.bind (Rd.need (decide (1 ≤ k) && decide (k ≤ 123)) 5) fun _ => Rd.bind (Rd.need (withinB a k) 7) fun _ => Rd.bind Rd.byte fun b => Rd.bind (Rd.need (b == 2 * k) 5) fun _ => Rd.bind (Rd.words (k)) fun ws => Rd.ret ({ m with addr := a, count := k, words := ws } : Msg) := by
  unfold manyR manyK countR whereR spanR
  simp only [bind_assoc, bind_ret]
theorem many_inv {m : Msg} {l : List Int} (hb : isBytes l) (h : (manyR m (cu l)).1.e = 0) : ∃ (a : Int) (k : Int) (b : Int) (ws : List Int) (t : List Int), l = a / 256 % 256 :: a % 256 :: k / 256 % 256 :: k % 256 :: b :: (putL ws ++ t) ∧ (0 ≤ a ∧ a < 65536) ∧ (0 ≤ k ∧ k < 65536) ∧ (decide (1 ≤ k) && decide (k ≤ 123)) = true ∧ (withinB a k) = true ∧ (0 ≤ b ∧ b < 256) ∧ (b == 2 * k) = true ∧ ((ws.length : Int) = k ∧ is16 ws) ∧ isBytes t ∧ manyR m (cu l) = (cu t, ({ m with addr := a, count := k, words := ws } : Msg)) := by
  rw [many_eq] at h ⊢
  obtain ⟨a, t, rfl, q0, hb, e⟩ := wordv_inv (by intro _; repeat' (with_reducible first | exact Dd.word | exact Dd.byte | exact Dd.need _ _ | exact Dd.words _ | exact Dd.ret _ | refine Dd.bind ?_ fun _ => ?_)) hb h
  rw [e] at h ⊢
  obtain ⟨k, t, rfl, q1, hb, e⟩ := wordv_inv (by intro _; repeat' (with_reducible first | exact Dd.word | exact Dd.byte | exact Dd.need _ _ | exact Dd.words _ | exact Dd.ret _ | refine Dd.bind ?_ fun _ => ?_)) hb h
  rw [e] at h ⊢
  obtain ⟨q2, e⟩ := need_inv (by decide) (by intro _; repeat' (with_reducible first | exact Dd.word | exact Dd.byte | exact Dd.need _ _ | exact Dd.words _ | exact Dd.ret _ | refine Dd.bind ?_ fun _ => ?_)) h
  rw [e] at h ⊢
  obtain ⟨q3, e⟩ := need_inv (by decide) (by intro _; repeat' (with_reducible first | exact Dd.word | exact Dd.byte | exact Dd.need _ _ | exact Dd.words _ | exact Dd.ret _ | refine Dd.bind ?_ fun _ => ?_)) h
  rw [e] at h ⊢
  obtain ⟨b, t, rfl, q4, hb, e⟩ := bytev_inv (by intro _; repeat' (with_reducible first | exact Dd.word | exact Dd.byte | exact Dd.need _ _ | exact Dd.words _ | exact Dd.ret _ | refine Dd.bind ?_ fun _ => ?_)) hb h
  rw [e] at h ⊢
  obtain ⟨q5, e⟩ := need_inv (by decide) (by intro _; repeat' (with_reducible first | exact Dd.word | exact Dd.byte | exact Dd.need _ _ | exact Dd.words _ | exact Dd.ret _ | refine Dd.bind ?_ fun _ => ?_)) h
  rw [e] at h ⊢
  obtain ⟨ws, t, rfl, q6, hb, e⟩ := wordsv_inv (by intro _; repeat' (with_reducible first | exact Dd.word | exact Dd.byte | exact Dd.need _ _ | exact Dd.words _ | exact Dd.ret _ | refine Dd.bind ?_ fun _ => ?_)) hb h
  rw [e] at h ⊢
  exact ⟨a, k, b, ws, t, rfl, q0, q1, q2, q3, q4, q5, q6, hb, rfl⟩
theorem many_run {m : Msg} {a : Int} {k : Int} {b : Int} {ws : List Int} {t : List Int} (q0 : (0 ≤ a ∧ a < 65536)) (q1 : (0 ≤ k ∧ k < 65536)) (q2 : (decide (1 ≤ k) && decide (k ≤ 123)) = true) (q3 : (withinB a k) = true) (q4 : (0 ≤ b ∧ b < 256)) (q5 : (b == 2 * k) = true) (q6 : ((ws.length : Int) = k ∧ is16 ws)) : manyR m (cu (a / 256 % 256 :: a % 256 :: k / 256 % 256 :: k % 256 :: b :: (putL ws ++ t))) = (cu t, ({ m with addr := a, count := k, words := ws } : Msg)) := by
  rw [many_eq, word_run _ q0, word_run _ q1, need_run _ q2, need_run _ q3, byte_run, need_run _ q5, wordsv_run _ q6]
  rfl
theorem mask_eq (m : Msg) : maskR m = Rd.bind Rd.word fun a => Rd.bind Rd.word fun k => Rd.bind Rd.word fun o => Rd.ret ({ m with addr := a, and_ := k, or_ := o } : Msg) := rfl
theorem mask_inv {m : Msg} {l : List Int} (hb : isBytes l) (h : (maskR m (cu l)).1.e = 0) : ∃ (a : Int) (k : Int) (o : Int) (t : List Int), l = a / 256 % 256 :: a % 256 :: k / 256 % 256 :: k % 256 :: o / 256 % 256 :: o % 256 :: t ∧ (0 ≤ a ∧ a < 65536) ∧ (0 ≤ k ∧ k < 65536) ∧ (0 ≤ o ∧ o < 65536) ∧ isBytes t ∧ maskR m (cu l) = (cu t, ({ m with addr := a, and_ := k, or_ := o } : Msg)) := by
  rw [mask_eq] at h ⊢
  obtain ⟨a, t, rfl, q0, hb, e⟩ := wordv_inv (by intro _; repeat' (with_reducible first | exact Dd.word | exact Dd.byte | exact Dd.need _ _ | exact Dd.words _ | exact Dd.ret _ | refine Dd.bind ?_ fun _ => ?_)) hb h
  rw [e] at h ⊢
  obtain ⟨k, t, rfl, q1, hb, e⟩ := wordv_inv (by intro _; repeat' (with_reducible first | exact Dd.word | exact Dd.byte | exact Dd.need _ _ | exact Dd.words _ | exact Dd.ret _ | refine Dd.bind ?_ fun _ => ?_)) hb h
  rw [e] at h ⊢
  obtain ⟨o, t, rfl, q2, hb, e⟩ := wordv_inv (by intro _; repeat' (with_reducible first | exact Dd.word | exact Dd.byte | exact Dd.need _ _ | exact Dd.words _ | exact Dd.ret _ | refine Dd.bind ?_ fun _ => ?_)) hb h
  rw [e] at h ⊢
  exact ⟨a, k, o, t, rfl, q0, q1, q2, hb, rfl⟩
theorem both_eq (m : Msg) : bothR m = Rd.bind Rd.word fun a => Rd.bind Rd.word fun k => Rd.bind (Rd.need (decide (1 ≤ k) && decide (k ≤ 125)) 5) fun _ => Rd.bind (Rd.need (withinB a k) 7) fun _ => Rd.bind Rd.word fun c => Rd.bind Rd.word fun n => Rd.bind (Rd.need (decide (1 ≤ n) && decide (n ≤ 121)) 5) fun _ => Rd.bind (Rd.need (withinB c n) 7) fun _ => Rd.bind Rd.byte fun b => Rd.bind (Rd.need (b == 2 * n) 5) fun _ => Rd.bind (Rd.words (n)) fun ws => Rd.ret ({ m with addr := a, count := k, addr2 := c, words := ws } : Msg) := by
  unfold bothR bothK countR whereR spanR
  simp only [bind_assoc, bind_ret]
theorem both_inv {m : Msg} {l : List Int} (hb : isBytes l) (h : (bothR m (cu l)).1.e = 0) : ∃ (a : Int) (k : Int) (c : Int) (n : Int) (b : Int) (ws : List Int) (t : List Int), l = a / 256 % 256 :: a % 256 :: k / 256 % 256 :: k % 256 :: c / 256 % 256 :: c % 256 :: n / 256 % 256 :: n % 256 :: b :: (putL ws ++ t) ∧ (0 ≤ a ∧ a < 65536) ∧ (0 ≤ k ∧ k < 65536) ∧ (decide (1 ≤ k) && decide (k ≤ 125)) = true ∧ (withinB a k) = true ∧ (0 ≤ c ∧ c < 65536) ∧ (0 ≤ n ∧ n < 65536) ∧ (decide (1 ≤ n) && decide (n ≤ 121)) = true ∧ (withinB c n) = true ∧ (0 ≤ b ∧ b < 256) ∧ (b == 2 * n) = true ∧ ((ws.length : Int) = n ∧ is16 ws) ∧ isBytes t ∧ bothR m (cu l) = (cu t, ({ m with addr := a, count := k, addr2 := c, words := ws } : Msg)) := by
  rw [both_eq] at h ⊢
  obtain ⟨a, t, rfl, q0, hb, e⟩ := wordv_inv (by intro _; repeat' (with_reducible first | exact Dd.word | exact Dd.byte | exact Dd.need _ _ | exact Dd.words _ | exact Dd.ret _ | refine Dd.bind ?_ fun _ => ?_)) hb h
  rw [e] at h ⊢
  obtain ⟨k, t, rfl, q1, hb, e⟩ := wordv_inv (by intro _; repeat' (with_reducible first | exact Dd.word | exact Dd.byte | exact Dd.need _ _ | exact Dd.words _ | exact Dd.ret _ | refine Dd.bind ?_ fun _ => ?_)) hb h
  rw [e] at h ⊢
  obtain ⟨q2, e⟩ := need_inv (by decide) (by intro _; repeat' (with_reducible first | exact Dd.word | exact Dd.byte | exact Dd.need _ _ | exact Dd.words _ | exact Dd.ret _ | refine Dd.bind ?_ fun _ => ?_)) h
  rw [e] at h ⊢
  obtain ⟨q3, e⟩ := need_inv (by decide) (by intro _; repeat' (with_reducible first | exact Dd.word | exact Dd.byte | exact Dd.need _ _ | exact Dd.words _ | exact Dd.ret _ | refine Dd.bind ?_ fun _ => ?_)) h
  rw [e] at h ⊢
  obtain ⟨c, t, rfl, q4, hb, e⟩ := wordv_inv (by intro _; repeat' (with_reducible first | exact Dd.word | exact Dd.byte | exact Dd.need _ _ | exact Dd.words _ | exact Dd.ret _ | refine Dd.bind ?_ fun _ => ?_)) hb h
  rw [e] at h ⊢
  obtain ⟨n, t, rfl, q5, hb, e⟩ := wordv_inv (by intro _; repeat' (with_reducible first | exact Dd.word | exact Dd.byte | exact Dd.need _ _ | exact Dd.words _ | exact Dd.ret _ | refine Dd.bind ?_ fun _ => ?_)) hb h
  rw [e] at h ⊢
  obtain ⟨q6, e⟩ := need_inv (by decide) (by intro _; repeat' (with_reducible first | exact Dd.word | exact Dd.byte | exact Dd.need _ _ | exact Dd.words _ | exact Dd.ret _ | refine Dd.bind ?_ fun _ => ?_)) h
  rw [e] at h ⊢
  obtain ⟨q7, e⟩ := need_inv (by decide) (by intro _; repeat' (with_reducible first | exact Dd.word | exact Dd.byte | exact Dd.need _ _ | exact Dd.words _ | exact Dd.ret _ | refine Dd.bind ?_ fun _ => ?_)) h
  rw [e] at h ⊢
  obtain ⟨b, t, rfl, q8, hb, e⟩ := bytev_inv (by intro _; repeat' (with_reducible first | exact Dd.word | exact Dd.byte | exact Dd.need _ _ | exact Dd.words _ | exact Dd.ret _ | refine Dd.bind ?_ fun _ => ?_)) hb h
  rw [e] at h ⊢
  obtain ⟨q9, e⟩ := need_inv (by decide) (by intro _; repeat' (with_reducible first | exact Dd.word | exact Dd.byte | exact Dd.need _ _ | exact Dd.words _ | exact Dd.ret _ | refine Dd.bind ?_ fun _ => ?_)) h
  rw [e] at h ⊢
  obtain ⟨ws, t, rfl, q10, hb, e⟩ := wordsv_inv (by intro _; repeat' (with_reducible first | exact Dd.word | exact Dd.byte | exact Dd.need _ _ | exact Dd.words _ | exact Dd.ret _ | refine Dd.bind ?_ fun _ => ?_)) hb h
  rw [e] at h ⊢
  exact ⟨a, k, c, n, b, ws, t, rfl, q0, q1, q2, q3, q4, q5, q6, q7, q8, q9, q10, hb, rfl⟩
theorem place_eq (m : Msg) : placeR m = Rd.bind Rd.word fun a => Rd.ret ({ m with addr := a } : Msg) := rfl
theorem place_inv {m : Msg} {l : List Int} (hb : isBytes l) (h : (placeR m (cu l)).1.e = 0) : ∃ (a : Int) (t : List Int), l = a / 256 % 256 :: a % 256 :: t ∧ (0 ≤ a ∧ a < 65536) ∧ isBytes t ∧ placeR m (cu l) = (cu t, ({ m with addr := a } : Msg)) := by
  rw [place_eq] at h ⊢
  obtain ⟨a, t, rfl, q0, hb, e⟩ := wordv_inv (by intro _; repeat' (with_reducible first | exact Dd.word | exact Dd.byte | exact Dd.need _ _ | exact Dd.words _ | exact Dd.ret _ | refine Dd.bind ?_ fun _ => ?_)) hb h
  rw [e] at h ⊢
  exact ⟨a, t, rfl, q0, hb, rfl⟩
theorem queue_eq (m : Msg) : queueR m = Rd.bind Rd.word fun n => Rd.bind (Rd.need (n % 2 == 0 && (decide (2 ≤ n) && decide (n ≤ 64))) 5) fun _ => Rd.bind Rd.word fun k => Rd.bind (Rd.need (2 + 2 * k == n) 5) fun _ => Rd.bind (Rd.words (k)) fun ws => Rd.ret ({ m with words := ws } : Msg) := rfl
theorem queue_inv {m : Msg} {l : List Int} (hb : isBytes l) (h : (queueR m (cu l)).1.e = 0) : ∃ (n : Int) (k : Int) (ws : List Int) (t : List Int), l = n / 256 % 256 :: n % 256 :: k / 256 % 256 :: k % 256 :: (putL ws ++ t) ∧ (0 ≤ n ∧ n < 65536) ∧ (n % 2 == 0 && (decide (2 ≤ n) && decide (n ≤ 64))) = true ∧ (0 ≤ k ∧ k < 65536) ∧ (2 + 2 * k == n) = true ∧ ((ws.length : Int) = k ∧ is16 ws) ∧ isBytes t ∧ queueR m (cu l) = (cu t, ({ m with words := ws } : Msg)) := by
  rw [queue_eq] at h ⊢
  obtain ⟨n, t, rfl, q0, hb, e⟩ := wordv_inv (by intro _; repeat' (with_reducible first | exact Dd.word | exact Dd.byte | exact Dd.need _ _ | exact Dd.words _ | exact Dd.ret _ | refine Dd.bind ?_ fun _ => ?_)) hb h
  rw [e] at h ⊢
  obtain ⟨q1, e⟩ := need_inv (by decide) (by intro _; repeat' (with_reducible first | exact Dd.word | exact Dd.byte | exact Dd.need _ _ | exact Dd.words _ | exact Dd.ret _ | refine Dd.bind ?_ fun _ => ?_)) h
  rw [e] at h ⊢
  obtain ⟨k, t, rfl, q2, hb, e⟩ := wordv_inv (by intro _; repeat' (with_reducible first | exact Dd.word | exact Dd.byte | exact Dd.need _ _ | exact Dd.words _ | exact Dd.ret _ | refine Dd.bind ?_ fun _ => ?_)) hb h
  rw [e] at h ⊢
  obtain ⟨q3, e⟩ := need_inv (by decide) (by intro _; repeat' (with_reducible first | exact Dd.word | exact Dd.byte | exact Dd.need _ _ | exact Dd.words _ | exact Dd.ret _ | refine Dd.bind ?_ fun _ => ?_)) h
  rw [e] at h ⊢
  obtain ⟨ws, t, rfl, q4, hb, e⟩ := wordsv_inv (by intro _; repeat' (with_reducible first | exact Dd.word | exact Dd.byte | exact Dd.need _ _ | exact Dd.words _ | exact Dd.ret _ | refine Dd.bind ?_ fun _ => ?_)) hb h
  rw [e] at h ⊢
  exact ⟨n, k, ws, t, rfl, q0, q1, q2, q3, q4, hb, rfl⟩
theorem queue_run {m : Msg} {n : Int} {k : Int} {ws : List Int} {t : List Int} (q0 : (0 ≤ n ∧ n < 65536)) (q1 : (n % 2 == 0 && (decide (2 ≤ n) && decide (n ≤ 64))) = true) (q2 : (0 ≤ k ∧ k < 65536)) (q3 : (2 + 2 * k == n) = true) (q4 : ((ws.length : Int) = k ∧ is16 ws)) : queueR m (cu (n / 256 % 256 :: n % 256 :: k / 256 % 256 :: k % 256 :: (putL ws ++ t))) = (cu t, ({ m with words := ws } : Msg)) := by
  rw [queue_eq, word_run _ q0, need_run _ q1, word_run _ q2, need_run _ q3, wordsv_run _ q4]
  rfl
theorem lay_ask {dir : Int} {m : Msg} (hk : dir = 0 ∧ (m.code = 3 ∨ m.code = 4)) : lay dir m = putL [m.addr, m.count] := by
  unfold lay
  (repeat' split) <;> first | rfl | (exfalso; omega)
theorem body_ask {dir : Int} {m : Msg} (hk : dir = 0 ∧ (m.code = 3 ∨ m.code = 4)) : bodyR dir m = whereR 125 m := by
  unfold bodyR
  (repeat' split) <;> first | rfl | (exfalso; omega)
theorem lay_get {dir : Int} {m : Msg} (hk : dir = 1 ∧ m.code = 16) : lay dir m = putL [m.addr, m.count] := by
  unfold lay
  (repeat' split) <;> first | rfl | (exfalso; omega)
theorem body_get {dir : Int} {m : Msg} (hk : dir = 1 ∧ m.code = 16) : bodyR dir m = whereR 123 m := by
  unfold bodyR
  (repeat' split) <;> first | rfl | (exfalso; omega)
theorem lay_told {dir : Int} {m : Msg} (hk : dir = 1 ∧ (m.code = 3 ∨ m.code = 4 ∨ m.code = 23)) : lay dir m = told m := by
  unfold lay
  (repeat' split) <;> first | rfl | (exfalso; omega)
theorem body_told {dir : Int} {m : Msg} (hk : dir = 1 ∧ (m.code = 3 ∨ m.code = 4 ∨ m.code = 23)) : bodyR dir m = toldR m := by
  unfold bodyR
  (repeat' split) <;> first | rfl | (exfalso; omega)
theorem lay_one {dir : Int} {m : Msg} (hk : m.code = 6) : lay dir m = putL [m.addr, m.value] := by
  unfold lay
  (repeat' split) <;> first | rfl | (exfalso; omega)
theorem body_one {dir : Int} {m : Msg} (hk : m.code = 6) : bodyR dir m = oneR m := by
  unfold bodyR
  (repeat' split) <;> first | rfl | (exfalso; omega)
theorem lay_many {dir : Int} {m : Msg} (hk : dir = 0 ∧ m.code = 16) : lay dir m = putL [m.addr, m.count] ++ told m := by
  unfold lay
  (repeat' split) <;> first | rfl | (exfalso; omega)
theorem body_many {dir : Int} {m : Msg} (hk : dir = 0 ∧ m.code = 16) : bodyR dir m = manyR m := by
  unfold bodyR
  (repeat' split) <;> first | rfl | (exfalso; omega)
theorem lay_mask {dir : Int} {m : Msg} (hk : m.code = 22) : lay dir m = putL [m.addr, m.and_, m.or_] := by
  unfold lay
  (repeat' split) <;> first | rfl | (exfalso; omega)
theorem body_mask {dir : Int} {m : Msg} (hk : m.code = 22) : bodyR dir m = maskR m := by
  unfold bodyR
  (repeat' split) <;> first | rfl | (exfalso; omega)
theorem lay_both {dir : Int} {m : Msg} (hk : dir = 0 ∧ m.code = 23) : lay dir m = putL [m.addr, m.count, m.addr2, (m.words.length : Int) % 65536] ++ told m := by
  unfold lay
  (repeat' split) <;> first | rfl | (exfalso; omega)
theorem body_both {dir : Int} {m : Msg} (hk : dir = 0 ∧ m.code = 23) : bodyR dir m = bothR m := by
  unfold bodyR
  (repeat' split) <;> first | rfl | (exfalso; omega)
theorem lay_place {dir : Int} {m : Msg} (hk : dir = 0 ∧ m.code = 24) : lay dir m = putL [m.addr] := by
  unfold lay
  (repeat' split) <;> first | rfl | (exfalso; omega)
theorem body_place {dir : Int} {m : Msg} (hk : dir = 0 ∧ m.code = 24) : bodyR dir m = placeR m := by
  unfold bodyR
  (repeat' split) <;> first | rfl | (exfalso; omega)
theorem lay_queue {dir : Int} {m : Msg} (hk : dir = 1 ∧ m.code = 24) : lay dir m = putL [(2 + 2 * (m.words.length : Int)) % 65536, (m.words.length : Int) % 65536] ++ putL m.words := by
  unfold lay
  (repeat' split) <;> first | rfl | (exfalso; omega)
theorem body_queue {dir : Int} {m : Msg} (hk : dir = 1 ∧ m.code = 24) : bodyR dir m = queueR m := by
  unfold bodyR
  (repeat' split) <;> first | rfl | (exfalso; omega)
theorem kinds {dir code : Int} (hd : dir = 0 ∨ dir = 1) (hc : isCode code) : (dir = 0 ∧ (code = 3 ∨ code = 4)) ∨ (dir = 1 ∧ code = 16) ∨ (dir = 1 ∧ (code = 3 ∨ code = 4 ∨ code = 23)) ∨ (code = 6) ∨ (dir = 0 ∧ code = 16) ∨ (code = 22) ∨ (dir = 0 ∧ code = 23) ∨ (dir = 0 ∧ code = 24) ∨ (dir = 1 ∧ code = 24) := by
  unfold isCode at hc
  omega
theorem fin_nil {α : Type} {r : Cu × α} {t : List Int} {a : α} (h : r.1.fin.e = 0) (e : r = (cu t, a)) : t = [] := by
  rw [e] at h
  exact (fin_ok h).2
theorem body_rt {dir code : Int} {b : List Int} (hd : dir = 0 ∨ dir = 1) (hc : isCode code) (hb : isBytes b) (h : (bodyR dir { zeroM with code := code } (cu b)).1.fin.e = 0) : lay dir (bodyR dir { zeroM with code := code } (cu b)).2 = b ∧ (bodyR dir { zeroM with code := code } (cu b)).2.code = code ∧ (bodyR dir { zeroM with code := code } (cu b)).2.words.length ≤ 1000 := by
  have h0 := (fin_ok h).1
  rcases kinds hd hc with hk | hk | hk | hk | hk | hk | hk | hk | hk
  · rw [body_ask (m := { zeroM with code := code }) hk] at h h0 ⊢
    obtain ⟨a, k, t, e, q0, q1, q2, q3, _, e2⟩ := where_inv hb h0
    have ht := fin_nil h e2
    subst ht
    rw [e2]
    simp only [withinB, Bool.and_eq_true, beq_iff_eq, decide_eq_true_eq] at q2 q3
    exact ⟨(lay_ask hk).trans e.symm, rfl, Nat.zero_le _⟩
  · rw [body_get (m := { zeroM with code := code }) hk] at h h0 ⊢
    obtain ⟨a, k, t, e, q0, q1, q2, q3, _, e2⟩ := where_inv hb h0
    have ht := fin_nil h e2
    subst ht
    rw [e2]
    simp only [withinB, Bool.and_eq_true, beq_iff_eq, decide_eq_true_eq] at q2 q3
    exact ⟨(lay_get hk).trans e.symm, rfl, Nat.zero_le _⟩
  · rw [body_told (m := { zeroM with code := code }) hk] at h h0 ⊢
    obtain ⟨b, ws, t, e, q0, q1, q2, _, e2⟩ := told_inv hb h0
    have ht := fin_nil h e2
    subst ht
    rw [e2]
    simp only [withinB, Bool.and_eq_true, beq_iff_eq, decide_eq_true_eq] at q1
    refine ⟨(lay_told hk).trans ?_, rfl, (show ws.length ≤ 1000 by omega)⟩
    rw [e, List.append_nil]
    show (2 * (ws.length : Int)) % 256 :: putL ws = _
    rw [show (2 * (ws.length : Int)) % 256 = b by omega]
  · rw [body_one (m := { zeroM with code := code }) hk] at h h0 ⊢
    obtain ⟨a, k, t, e, q0, q1, _, e2⟩ := one_inv hb h0
    have ht := fin_nil h e2
    subst ht
    rw [e2]
    exact ⟨(lay_one hk).trans e.symm, rfl, Nat.zero_le _⟩
  · rw [body_many (m := { zeroM with code := code }) hk] at h h0 ⊢
    obtain ⟨a, k, b, ws, t, e, q0, q1, q2, q3, q4, q5, q6, _, e2⟩ := many_inv hb h0
    have ht := fin_nil h e2
    subst ht
    rw [e2]
    simp only [withinB, Bool.and_eq_true, beq_iff_eq, decide_eq_true_eq] at q2 q3 q5
    refine ⟨(lay_many hk).trans ?_, rfl, (show ws.length ≤ 1000 by omega)⟩
    rw [e, List.append_nil]
    show a / 256 % 256 :: a % 256 :: k / 256 % 256 :: k % 256 :: (2 * (ws.length : Int)) % 256 :: putL ws = _
    rw [show (2 * (ws.length : Int)) % 256 = b by omega]
  · rw [body_mask (m := { zeroM with code := code }) hk] at h h0 ⊢
    obtain ⟨a, k, o, t, e, q0, q1, q2, _, e2⟩ := mask_inv hb h0
    have ht := fin_nil h e2
    subst ht
    rw [e2]
    exact ⟨(lay_mask hk).trans e.symm, rfl, Nat.zero_le _⟩
  · rw [body_both (m := { zeroM with code := code }) hk] at h h0 ⊢
    obtain ⟨a, k, c, n, b, ws, t, e, q0, q1, q2, q3, q4, q5, q6, q7, q8, q9, q10, _, e2⟩ := both_inv hb h0
    have ht := fin_nil h e2
    subst ht
    rw [e2]
    simp only [withinB, Bool.and_eq_true, beq_iff_eq, decide_eq_true_eq] at q2 q3 q6 q7 q9
    refine ⟨(lay_both hk).trans ?_, rfl, (show ws.length ≤ 1000 by omega)⟩
    rw [e, List.append_nil]
    show a / 256 % 256 :: a % 256 :: k / 256 % 256 :: k % 256 :: c / 256 % 256 :: c % 256 :: (ws.length : Int) % 65536 / 256 % 256 :: (ws.length : Int) % 65536 % 256 :: (2 * (ws.length : Int)) % 256 :: putL ws = _
    rw [show (2 * (ws.length : Int)) % 256 = b by omega, show (ws.length : Int) % 65536 = n by omega]
  · rw [body_place (m := { zeroM with code := code }) hk] at h h0 ⊢
    obtain ⟨a, t, e, q0, _, e2⟩ := place_inv hb h0
    have ht := fin_nil h e2
    subst ht
    rw [e2]
    exact ⟨(lay_place hk).trans e.symm, rfl, Nat.zero_le _⟩
  · rw [body_queue (m := { zeroM with code := code }) hk] at h h0 ⊢
    obtain ⟨n, k, ws, t, e, q0, q1, q2, q3, q4, _, e2⟩ := queue_inv hb h0
    have ht := fin_nil h e2
    subst ht
    rw [e2]
    simp only [withinB, Bool.and_eq_true, beq_iff_eq, decide_eq_true_eq] at q1 q3
    refine ⟨(lay_queue hk).trans ?_, rfl, (show ws.length ≤ 1000 by omega)⟩
    rw [e, List.append_nil]
    show (2 + 2 * (ws.length : Int)) % 65536 / 256 % 256 :: (2 + 2 * (ws.length : Int)) % 65536 % 256 :: (ws.length : Int) % 65536 / 256 % 256 :: (ws.length : Int) % 65536 % 256 :: putL ws = _
    rw [show (2 + 2 * (ws.length : Int)) % 65536 = n by omega, show (ws.length : Int) % 65536 = k by omega]
theorem write_run {dir : Int} {m : Msg} (hd : dir = 0 ∨ dir = 1) (hc : isCode m.code) (h : bodyR dir { zeroM with code := m.code } (cu (lay dir m)) = (cu [], m)) : write dir m = (lay dir m, 0) := by
  refine writeR_eq ?_
  rw [parse_of hd hc (by rw [h]; rfl), h]
theorem write_body {dir : Int} {m : Msg} (h : (write dir m).2 = 0) : (bodyR dir { zeroM with code := m.code } (cu (lay dir m))).1.fin.e = 0 ∧ (bodyR dir { zeroM with code := m.code } (cu (lay dir m))).2 = m := by
  obtain ⟨h1, h2, _⟩ := writeR_ok h
  obtain ⟨_, _, h3, h4⟩ := parse_ok h1
  rw [h4] at h2
  exact ⟨h3, h2⟩
def inB (most a k : Int) : Prop := 1 ≤ k ∧ k ≤ most ∧ k ≤ 65536 - a
instance (most a k : Int) : Decidable (inB most a k) := by unfold inB; infer_instance
def mkA (code a k : Int) : Msg := { zeroM with code := code, addr := a, count := k }
theorem layA {code a k : Int} (hc : code = 3 ∨ code = 4) : lay 0 (mkA code a k) = putL [a, k] := lay_ask (m := (mkA code a k)) ⟨rfl, hc⟩
theorem writeA {code a k : Int} (hc : code = 3 ∨ code = 4) (ha : 0 ≤ a ∧ a < 65536) (hk : 0 ≤ k ∧ k < 65536) : write 0 (mkA code a k) = if inB 125 a k then (putL [a, k], 0) else ([], 1) := by
  have hl : lay 0 (mkA code a k) = _ := layA hc
  have hbd := body_ask (dir := 0) (m := { zeroM with code := (mkA code a k).code }) ⟨rfl, hc⟩
  split
  · rename_i ho
    unfold inB at ho
    rw [← hl]
    refine write_run (.inl rfl) (show isCode code by unfold isCode; omega) ?_
    rw [hl, hbd]
    exact where_run (m := { zeroM with code := (mkA code a k).code })  (t := []) (by omega) (by omega) (by simp only [withinB, Bool.and_eq_true, beq_iff_eq, decide_eq_true_eq]; omega) (by simp only [withinB, Bool.and_eq_true, beq_iff_eq, decide_eq_true_eq]; omega)
  · rename_i ho
    refine writeR_no fun h0 => ho ?_
    obtain ⟨h1, h2⟩ := write_body h0
    rw [hl, hbd] at h1 h2
    obtain ⟨a', k', t', _, q0, q1, q2, q3, _, e2⟩ := where_inv (by rw [← hl]; exact lay_bytes) (fin_ok h1).1
    rw [e2] at h2
    have aa : a' = a := congrArg (fun m : Msg => m.addr) h2
    have ak : k' = k := congrArg (fun m : Msg => m.count) h2
    simp only [withinB, Bool.and_eq_true, beq_iff_eq, decide_eq_true_eq] at q2 q3
    unfold inB
    omega
def mkR (a k : Int) : Msg := { zeroM with code := 16, addr := a, count := k }
theorem layR {a k : Int}  : lay 1 (mkR a k) = putL [a, k] := lay_get (m := (mkR a k)) ⟨rfl, rfl⟩
theorem writeR {a k : Int}  (ha : 0 ≤ a ∧ a < 65536) (hk : 0 ≤ k ∧ k < 65536) : write 1 (mkR a k) = if inB 123 a k then (putL [a, k], 0) else ([], 1) := by
  have hl : lay 1 (mkR a k) = _ := layR
  have hbd := body_get (dir := 1) (m := { zeroM with code := (mkR a k).code }) ⟨rfl, rfl⟩
  split
  · rename_i ho
    unfold inB at ho
    rw [← hl]
    refine write_run (.inr rfl) (show isCode 16 by decide) ?_
    rw [hl, hbd]
    exact where_run (m := { zeroM with code := (mkR a k).code })  (t := []) (by omega) (by omega) (by simp only [withinB, Bool.and_eq_true, beq_iff_eq, decide_eq_true_eq]; omega) (by simp only [withinB, Bool.and_eq_true, beq_iff_eq, decide_eq_true_eq]; omega)
  · rename_i ho
    refine writeR_no fun h0 => ho ?_
    obtain ⟨h1, h2⟩ := write_body h0
    rw [hl, hbd] at h1 h2
    obtain ⟨a', k', t', _, q0, q1, q2, q3, _, e2⟩ := where_inv (by rw [← hl]; exact lay_bytes) (fin_ok h1).1
    rw [e2] at h2
    have aa : a' = a := congrArg (fun m : Msg => m.addr) h2
    have ak : k' = k := congrArg (fun m : Msg => m.count) h2
    simp only [withinB, Bool.and_eq_true, beq_iff_eq, decide_eq_true_eq] at q2 q3
    unfold inB
    omega
def mkT (ws : List Int) : Msg := { zeroM with code := 3, words := ws }
theorem layT {ws : List Int}  : lay 1 (mkT ws) = ((2 * (ws.length : Int)) % 256 :: putL ws) := lay_told (m := (mkT ws)) ⟨rfl, .inl rfl⟩
theorem writeT {ws : List Int}   (hws : is16 ws) : write 1 (mkT ws) = if 1 ≤ ws.length ∧ ws.length ≤ 125 then (((2 * (ws.length : Int)) % 256 :: putL ws), 0) else ([], 1) := by
  have hl : lay 1 (mkT ws) = _ := layT
  have hbd := body_told (dir := 1) (m := { zeroM with code := (mkT ws).code }) ⟨rfl, .inl rfl⟩
  split
  · rename_i ho
    have ho := ho
    rw [← hl]
    refine write_run (.inr rfl) (show isCode 3 by decide) ?_
    rw [hl, hbd]
    have hr := told_run (m := { zeroM with code := (mkT ws).code })  (b := (2 * (ws.length : Int)) % 256) (t := []) (ws := ws) (by omega) (by simp only [withinB, Bool.and_eq_true, beq_iff_eq, decide_eq_true_eq]; omega) ⟨by omega, hws⟩
    rw [List.append_nil] at hr
    exact hr
  · rename_i ho
    refine writeR_no fun h0 => ho ?_
    obtain ⟨h1, h2⟩ := write_body h0
    rw [hl, hbd] at h1 h2
    obtain ⟨b', ws', t', _, q0, q1, q2, _, e2⟩ := told_inv (by rw [← hl]; exact lay_bytes) (fin_ok h1).1
    rw [e2] at h2
    have aws : ws' = ws := congrArg (fun m : Msg => m.words) h2
    simp only [withinB, Bool.and_eq_true, beq_iff_eq, decide_eq_true_eq] at q1
    have aw := congrArg List.length aws
    omega
def mkM (a k : Int) (ws : List Int) : Msg := { zeroM with code := 16, addr := a, count := k, words := ws }
theorem layM {a k : Int} {ws : List Int}  : lay 0 (mkM a k ws) = putL [a, k] ++ ((2 * (ws.length : Int)) % 256 :: putL ws) := lay_many (m := (mkM a k ws)) ⟨rfl, rfl⟩
theorem writeM {a k : Int} {ws : List Int}  (ha : 0 ≤ a ∧ a < 65536) (hk : 0 ≤ k ∧ k < 65536) (hws : is16 ws) : write 0 (mkM a k ws) = if inB 123 a k ∧ (ws.length : Int) = k then (putL [a, k] ++ ((2 * (ws.length : Int)) % 256 :: putL ws), 0) else ([], 1) := by
  have hl : lay 0 (mkM a k ws) = _ := layM
  have hbd := body_many (dir := 0) (m := { zeroM with code := (mkM a k ws).code }) ⟨rfl, rfl⟩
  split
  · rename_i ho
    unfold inB at ho
    rw [← hl]
    refine write_run (.inl rfl) (show isCode 16 by decide) ?_
    rw [hl, hbd]
    have hr := many_run (m := { zeroM with code := (mkM a k ws).code }) (a := a) (k := k) (b := (2 * (ws.length : Int)) % 256) (t := []) (ws := ws) (by omega) (by omega) (by simp only [withinB, Bool.and_eq_true, beq_iff_eq, decide_eq_true_eq]; omega) (by simp only [withinB, Bool.and_eq_true, beq_iff_eq, decide_eq_true_eq]; omega) (by omega) (by simp only [withinB, Bool.and_eq_true, beq_iff_eq, decide_eq_true_eq]; omega) ⟨by omega, hws⟩
    rw [List.append_nil] at hr
    exact hr
  · rename_i ho
    refine writeR_no fun h0 => ho ?_
    obtain ⟨h1, h2⟩ := write_body h0
    rw [hl, hbd] at h1 h2
    obtain ⟨a', k', b', ws', t', _, q0, q1, q2, q3, q4, q5, q6, _, e2⟩ := many_inv (by rw [← hl]; exact lay_bytes) (fin_ok h1).1
    rw [e2] at h2
    have aa : a' = a := congrArg (fun m : Msg => m.addr) h2
    have ak : k' = k := congrArg (fun m : Msg => m.count) h2
    have aws : ws' = ws := congrArg (fun m : Msg => m.words) h2
    simp only [withinB, Bool.and_eq_true, beq_iff_eq, decide_eq_true_eq] at q2 q3 q5
    have aw := congrArg List.length aws
    unfold inB
    omega
def mkQ (ws : List Int) : Msg := { zeroM with code := 24, words := ws }
theorem layQ {ws : List Int}  : lay 1 (mkQ ws) = putL [(2 + 2 * (ws.length : Int)) % 65536, (ws.length : Int) % 65536] ++ putL ws := lay_queue (m := (mkQ ws)) ⟨rfl, rfl⟩
theorem writeQ {ws : List Int}   (hws : is16 ws) : write 1 (mkQ ws) = if ws.length ≤ 31 then (putL [(2 + 2 * (ws.length : Int)) % 65536, (ws.length : Int) % 65536] ++ putL ws, 0) else ([], 1) := by
  have hl : lay 1 (mkQ ws) = _ := layQ
  have hbd := body_queue (dir := 1) (m := { zeroM with code := (mkQ ws).code }) ⟨rfl, rfl⟩
  split
  · rename_i ho
    have ho := ho
    rw [← hl]
    refine write_run (.inr rfl) (show isCode 24 by decide) ?_
    rw [hl, hbd]
    have hr := queue_run (m := { zeroM with code := (mkQ ws).code })  (n := (2 + 2 * (ws.length : Int)) % 65536) (k := (ws.length : Int) % 65536) (t := []) (ws := ws) (by omega) (by simp only [withinB, Bool.and_eq_true, beq_iff_eq, decide_eq_true_eq]; omega) (by omega) (by simp only [withinB, Bool.and_eq_true, beq_iff_eq, decide_eq_true_eq]; omega) ⟨by omega, hws⟩
    rw [List.append_nil] at hr
    exact hr
  · rename_i ho
    refine writeR_no fun h0 => ho ?_
    obtain ⟨h1, h2⟩ := write_body h0
    rw [hl, hbd] at h1 h2
    obtain ⟨n', k', ws', t', _, q0, q1, q2, q3, q4, _, e2⟩ := queue_inv (by rw [← hl]; exact lay_bytes) (fin_ok h1).1
    rw [e2] at h2
    have aws : ws' = ws := congrArg (fun m : Msg => m.words) h2
    simp only [withinB, Bool.and_eq_true, beq_iff_eq, decide_eq_true_eq] at q1 q3
    have aw := congrArg List.length aws
    omega
def mkO (a k : Int) : Msg := { zeroM with code := 6, addr := a, value := k }
theorem layO {dir : Int} {a k : Int}  : lay dir (mkO a k) = putL [a, k] := lay_one (m := (mkO a k)) rfl
theorem writeO {dir : Int} {a k : Int}  (ha : 0 ≤ a ∧ a < 65536) (hk : 0 ≤ k ∧ k < 65536) (hd : dir = 0 ∨ dir = 1) : write dir (mkO a k) = (putL [a, k], 0) := by
  have hl : lay dir (mkO a k) = _ := layO
  have hbd := body_one (dir := dir) (m := { zeroM with code := (mkO a k).code }) rfl
  rw [← hl]
  refine write_run hd (show isCode 6 by decide) ?_
  rw [hl, hbd]
  exact one_run (m := { zeroM with code := (mkO a k).code })  (t := []) (by omega) (by omega)
end Go.Proofs.Ytmglilncdffbkaa.Reg
end
section
namespace Go.Proofs.Ytmglilncdffbkaa.Reg
open Go.RowKit Go.Proofs.Ytmglilncdffbkaa.P Go.Proofs.Ytmglilncdffbkaa.E Go.Proofs.Ytmglilncdffbkaa.Cur Go.Proofs.Ytmglilncdffbkaa.Cu Go.Proofs.Ytmglilncdffbkaa.Same Go.Proofs.Ytmglilncdffbkaa.Put Go.Proofs.Ytmglilncdffbkaa.Com Go.Proofs.Ytmglilncdffbkaa.Reg Go.Proofs.YtmglilncdffbkaaW.PrintWords Go.Proofs.YtmglilncdffbkaaW.PrintLast Go.Proofs.YtmglilncdffbkaaW.PrintMore
theorem mkO_is {a k : Int} (ha : 0 ≤ a ∧ a < 65536) (hk : 0 ≤ k ∧ k < 65536) (W : World) : IsMsg W (((zeroC.setIfInBounds 0 (.int .u8 6)).setIfInBounds 2 (.int .u16 a)).setIfInBounds 4 (.int .u16 k)) (mkO a k) := set_value (set_addr (set_code (zero_is W) (v := 6) (by decide)) ha) hk
theorem mkT_is {ws : List Int} {A : Option Addr} {n : Nat} {W : World} (hw : is16 ws) (hr : Kd.C (Kd.int .u16) W A ws.length ws) (hn : ws.length ≤ n) : IsMsg W ((zeroC.setIfInBounds 0 (.int .u8 3)).setIfInBounds 12 (.slice A ws.length n)) (mkT ws) := set_words (set_code (zero_is W) (v := 3) (by decide)) hn hw hr
theorem mkQ_is {ws : List Int} {A : Option Addr} {n : Nat} {W : World} (hw : is16 ws) (hr : Kd.C (Kd.int .u16) W A ws.length ws) (hn : ws.length ≤ n) : IsMsg W ((zeroC.setIfInBounds 0 (.int .u8 24)).setIfInBounds 12 (.slice A ws.length n)) (mkQ ws) := set_words (set_code (zero_is W) (v := 24) (by decide)) hn hw hr
theorem mkN_is {ws : List Int} {A : Option Addr} {n : Nat} {W : World} {k : Int} (hk : 0 ≤ k ∧ k < 65536) (hw : is16 ws) (hr : Kd.C (Kd.int .u16) W A ws.length ws) (hn : ws.length ≤ n) : IsMsg W (((zeroC.setIfInBounds 0 (.int .u8 16)).setIfInBounds 3 (.int .u16 k)).setIfInBounds 12 (.slice A ws.length n)) (mkM 0 k ws) := set_words (set_count (set_code (zero_is W) (v := 16) (by decide)) hk) hn hw hr
theorem good_words {m : Msg} (h : goodM m) {l : List Int} (hw : is16 l) : goodM { m with words := l } := ⟨h.1, hw, h.2.2⟩
theorem mk_c {dir : Int} {m : Msg} (hg : goodM m) (hl : m.words.length ≤ 1000) {R : List Int × Int} (e : write dir m = R) : WriteC 16 dir m R := by
  rw [← e]
  exact write_c hl hg
theorem mkO_good {a k : Int} (ha : 0 ≤ a ∧ a < 65536) (hk : 0 ≤ k ∧ k < 65536) : goodM (mkO a k) := (mkO_is ha hk (default : World)).good
theorem mkT_good {ws : List Int} (hw : is16 ws) : goodM (mkT ws) := good_words (good_code zero_good (v := 3) (by decide)) hw
theorem mkQ_good {ws : List Int} (hw : is16 ws) : goodM (mkQ ws) := good_words (good_code zero_good (v := 24) (by decide)) hw
theorem mkM_good {a k : Int} {ws : List Int} (ha : 0 ≤ a ∧ a < 65536) (hk : 0 ≤ k ∧ k < 65536) (hw : is16 ws) : goodM (mkM a k ws) := good_words (good_count (good_addr (good_code zero_good (v := 16) (by decide)) ha) hk) hw
theorem bytes_dec (l : List Int) (h : l.all (fun x => decide (0 ≤ x) && decide (x < 256)) = true) : isBytes l := fun x hx => by
  have := List.all_eq_true.1 h x hx
  simpa using this
theorem ex1 : parse 0 3 [0, 107, 0, 3] = (mkA 3 107 3, 0) := by
  have h := writeA (code := 3) (a := 107) (k := 3) (.inl rfl) (by decide) (by decide)
  rw [if_pos (by unfold inB; decide)] at h
  obtain ⟨h1, h2, _⟩ := writeR_ok (show (write 0 (mkA 3 107 3)).2 = 0 by rw [h])
  rw [layA (.inl rfl)] at h1 h2
  exact Prod.ext h2 h1
theorem ex2 : parse 1 24 [0, 6, 0, 2, 1, 184, 18, 132] = (mkQ [440, 4740], 0) := by
  have h := writeQ (ws := [440, 4740]) (is16_2 (by decide) (by decide))
  rw [if_pos (by decide)] at h
  obtain ⟨h1, h2, _⟩ := writeR_ok (show (write 1 (mkQ [440, 4740])).2 = 0 by rw [h])
  rw [layQ] at h1 h2
  exact Prod.ext h2 h1
theorem ex3 : write 0 (mkO 1 3) = ([0, 1, 0, 3], 0) := writeO (by decide) (by decide) (.inl rfl)
end Go.Proofs.Ytmglilncdffbkaa.Reg
end
section
namespace Go.Proofs.Ytmglilncdffbkaa.Laws
open Go.RowKit Go.Proofs.Ytmglilncdffbkaa.P Go.Proofs.Ytmglilncdffbkaa.E Go.Proofs.Ytmglilncdffbkaa.Cur Go.Proofs.Ytmglilncdffbkaa.Cu Go.Proofs.Ytmglilncdffbkaa.Same Go.Proofs.Ytmglilncdffbkaa.Put Go.Proofs.Ytmglilncdffbkaa.Com Go.Proofs.Ytmglilncdffbkaa.Reg Go.Proofs.YtmglilncdffbkaaW.PrintWords Go.Proofs.YtmglilncdffbkaaW.PrintLast Go.Proofs.YtmglilncdffbkaaW.PrintMore
theorem awake_any (w : World) :
    Calls Try.prog 11 #[] w fun e w' => e = .returned (.bool true) ∧ Below w.heap.size w w' := by
  have H1 := Aside0.mk (show ParseC 12 0 3 [0, 107, 0, 3] (mkA 3 107 3, 0) from by rw [← ex1]; exact parse_c (by decide) (bytes_dec _ (by decide)) (by decide))
  have H2 := Aside0.mk (show ParseC 12 1 24 [0, 6, 0, 2, 1, 184, 18, 132] (mkQ [440, 4740], 0) from by rw [← ex2]; exact parse_c (by decide) (bytes_dec _ (by decide)) (by decide))
  have H3 := Aside0.mk (show WriteC 16 0 (mkO 1 3) ([0, 1, 0, 3], 0) from mk_c (mkO_good (by decide) (by decide)) (Nat.zero_le _) ex3)
  have H := Aside0.mk (Hd.start w)
  go_enter Try.func11, Try.ntmps11
  go_upto_region 2 with (first | ((with_reducible refine gate_dst (N := 8) rfl ?_); (try (refine gate_guard (by rfl) ?_; dsimp only)); refine ev_lit .u8 [0, 107, 0, 3] 5 rfl (by first | (go_simp; done) | (go_simp; rfl)) (by simp) ?_; intro Aa ca wl ba he_ hr_ hz_ hb_; have Za := Aside0.mk hz_; have Ea := Aside0.mk he_; have n0_ := Aside0.mk ((H.out.on hb_).add (sta_C _ _ _ _) (hr_)); clear H; have H := n0_; clear n0_; clear hr_ hz_ hb_ he_) | (go_at_call 12; (with_reducible refine (ParseC.c (ParseC.ex H1.out Ea.out) H.out.f.2 Za.out).mono ?_); rintro en wm ⟨cm, rfl, hm_, hb_⟩; have n0_ := Aside0.mk ((H.out.on hb_).add (sta_msg _ _) (hm_)); clear H; have H := n0_; clear n0_; clear hb_ hm_) | ((with_reducible refine gate_dst (N := 1) rfl ?_); refine ev_var (y := .tmp 10) rfl rfl rfl rfl rfl H.out.f.2 rfl rfl ?_; intro gm wv hg_ h1_ hb_; have n0_ := Aside0.mk ((H.out.on hb_).add (sta_blk _ _) (h1_)); clear H; have H := n0_; clear n0_; clear h1_ hb_ hg_))
  go_upto_region 3 with (first | ((with_reducible refine gate_dst (N := 13) rfl ?_); (try (refine gate_guard (by rfl) ?_; dsimp only)); refine ev_lit .u8 [0, 6, 0, 2, 1, 184, 18, 132] 5 rfl (by first | (go_simp; done) | (go_simp; rfl)) (by simp) ?_; intro Ab cb wlb bb he_ hr_ hz_ hb_; have Zb := Aside0.mk hz_; have Eb := Aside0.mk he_; have n0_ := Aside0.mk ((H.out.on hb_).add (sta_C _ _ _ _) (hr_)); clear H; have H := n0_; clear n0_; clear hr_ hz_ hb_ he_) | (go_at_call 12; (with_reducible refine (ParseC.c (ParseC.ex H2.out Eb.out) H.out.f.2 Zb.out).mono ?_); rintro en wx ⟨cx, rfl, hm_, hb_⟩; have n0_ := Aside0.mk ((H.out.on hb_).add (sta_msg _ _) (hm_)); clear H; have H := n0_; clear n0_; clear hb_ hm_) | ((with_reducible refine gate_dst (N := 3) rfl ?_); refine ev_var (y := .tmp 15) rfl rfl rfl rfl rfl H.out.f.2 rfl rfl ?_; intro gx wxx hg_ h1_ hb_; have n0_ := Aside0.mk ((H.out.on hb_).add (sta_blk _ _) (h1_)); clear H; have H := n0_; clear n0_; clear h1_ hb_ hg_))
  go_upto_region 4 with (first | ((with_reducible refine gate_dst (N := 18) rfl ?_); (try (refine gate_guard (by rfl) ?_; dsimp only)); refine ev_build (((zeroC.setIfInBounds 0 (.int .u8 6)).setIfInBounds 2 (.int .u16 1)).setIfInBounds 4 (.int .u16 3)) rfl (by first | (go_simp; done) | (go_simp; rfl)) ?_; intro cz hcx_; have mx_ := (fun W => (by rw [hcx_]; exact ((fun W => mkO_is (by decide) (by decide) W)) W : IsMsg W cz (mkO 1 3))); have n0_ := Aside0.mk ((H.out).add (sta_msg _ _) (mx_ _)); clear H; have H := n0_; clear n0_; clear hcx_ mx_) | (go_at_call 16; (with_reducible refine (WriteC.n H3.out (n := 4) rfl H.out.f.2).mono ?_); rintro en ww ⟨Aw, cw, rfl, hz_, hr_, hb_⟩; have n0_ := Aside0.mk ((H.out.on hb_).add (sta_C _ _ _ _) (hr_)); clear H; have H := n0_; clear n0_; have Zw := Aside0.mk hz_; clear hb_ hr_ hz_))
  obtain ⟨A12, c12, A13, c13, A14, c14, A15, c15, A21, c21, ⟨l12, _, _, _, _⟩, _, _, _, _, _⟩ := IsMsg.lists H.out.f.1.1.1.2
  have k12 : ww.cell? ⟨gx, 12, none⟩ = some (.slice A12 2 c12) := (blk_cell H.out.f.1.1.2 12).trans l12
  have kaddr : ww.cell? ⟨gm, 2, none⟩ = some (.int .u16 107) := bx_addr H.out.f.1.1.1.1.1.2 H.out.f.1.1.1.1.1.1.2
  have kcount : ww.cell? ⟨gm, 3, none⟩ = some (.int .u16 3) := bx_count H.out.f.1.1.1.1.1.2 H.out.f.1.1.1.1.1.1.2
  have hcv := Kd.C_string (P := Try.prog) (A := Aw) (c := cw) Try.underlying22 Try.underlying5 Try.underlying9 H.out.f.2
  have hs : ((strOfNums [0, 1, 0, 3]).toList == [0, 1, 0, 3]) = true := by rw [str_list]; rfl
  clear l12
  go_wp2
  go_ret
  exact ⟨by first | rfl | (simp; done) | decide, H.out.b⟩
theorem u16_wf {n : Int} (h : (Lit.int .u16 n).wf = true) : 0 ≤ n ∧ n < 65536 := by
  simp only [Lit.wf, IntKind.min, IntKind.max, IntKind.signed, IntKind.bits, Bool.and_eq_true, decide_eq_true_eq] at h
  simp at h
  omega
end Go.Proofs.Ytmglilncdffbkaa.Laws
end
section
namespace Go.Proofs.Ytmglilncdffbkaa.P
open Go.RowKit Go.Proofs.YtmglilncdffbkaaW.PrintWords Go.Proofs.YtmglilncdffbkaaW.PrintLast Go.Proofs.YtmglilncdffbkaaW.PrintMore
attribute [local go_sem] max2_int min2_int max_two min_two max_three min_three max_four min_four   -- for this text's walks alone
def busbarlaw09_ends.l0 : Nat → List Int → List Int → Int → Int → Option (Bool)
  | 0, _, _, _, _ => none
  | k + 1, x0, x1, x5, x6 => if x6 < (x1.length : Int) then (if 0 ≤ (wrap64 (x5 + (wrap64 (2 * x6)))) then (if (wrap64 (x5 + (wrap64 (2 * x6)))) < (x0.length : Int) then (if 0 ≤ x6 then (if (rd x0 (wrap64 (x5 + (wrap64 (2 * x6))))) = (((rd x1 x6) / 256) % 256) then (if 0 ≤ (wrap64 ((wrap64 (x5 + (wrap64 (2 * x6)))) + 1)) then (if (wrap64 ((wrap64 (x5 + (wrap64 (2 * x6)))) + 1)) < (x0.length : Int) then (if (rd x0 (wrap64 ((wrap64 (x5 + (wrap64 (2 * x6)))) + 1))) = ((Go.bits .and .u16 (rd x1 x6) 255) % 256) then (busbarlaw09_ends.l0 k x0 x1 x5 (wrap64 (x6 + 1))) else (some false)) else (none)) else (none)) else (some false)) else (none)) else (none)) else (none)) else (some true)
def busbarlaw09_ends.f (k : Nat) (l0 : List Int) (l1 : List Int) : Option (Bool) := if (wrap64 ((l0.length : Int) - (wrap64 (2 * (l1.length : Int))))) < 0 then (some false) else (busbarlaw09_ends.l0 k l0 l1 (wrap64 ((l0.length : Int) - (wrap64 (2 * (l1.length : Int))))) 0)
theorem busbarlaw09_ends.calls (k : Nat) (A0 : Option Addr) (c0 : Nat) (l0 : List Int) (A1 : Option Addr) (c1 : Nat) (l1 : List Int) (r : Bool) (w : World) (hr0 : Kd.C (Kd.int .u8) w A0 l0.length l0) (hc0 : l0.length ≤ c0) (hr1 : Kd.C (Kd.int .u16) w A1 l1.length l1) (hc1 : l1.length ≤ c1) (h : busbarlaw09_ends.f k l0 l1 = some r) :
    Calls Try.prog 19 #[.slice A0 l0.length c0, .slice A1 l1.length c1] w fun e w' => e = .returned (.bool r) ∧ Drawn0 w w' := by
  have HR0 := Aside0.mk hr0
  have HC0 := Aside0.mk hc0
  clear hr0 hc0
  have HR1 := Aside0.mk hr1
  have HC1 := Aside0.mk hc1
  clear hr1 hc1
  have H : (if (wrap64 ((l0.length : Int) - (wrap64 (2 * (l1.length : Int))))) < 0 then (some false) else (busbarlaw09_ends.l0 k l0 l1 (wrap64 ((l0.length : Int) - (wrap64 (2 * (l1.length : Int))))) 0)) = some r := h
  clear h
  by_cases c3 : (wrap64 ((l0.length : Int) - (wrap64 (2 * (l1.length : Int))))) < 0
  · rw [if_pos c3] at H
    have c3b0 : decide ((wrap64 ((l0.length : Int) - (wrap64 (2 * (l1.length : Int))))) < 0) = true := decide_eq_true c3
    clear c3
    obtain rfl := Option.some.inj H
    go_enter Try.func19, Try.ntmps19
    go_wp2
    repeat (go_quiet (fail); try go_wp2)
    go_ret
    exact ⟨by first | rfl | (simp; done) | (simp [*]; done), by repeat (first | exact Drawn0.refl _ | apply Drawn0.step)⟩
  · rw [if_neg c3] at H
    have c3b0 : decide ((wrap64 ((l0.length : Int) - (wrap64 (2 * (l1.length : Int))))) < 0) = false := decide_eq_false c3
    clear c3
    have H' := Aside0.mk H
    clear H
    go_enter Try.func19, Try.ntmps19
    go_wp2
    repeat (go_quiet (fail); try go_wp2)
    go_loopg [6] k (fun kq v6 w' => ∃ (x6_1 : Int), v6 = .int .i64 x6_1 ∧ Aside0 (busbarlaw09_ends.l0 kq l0 l1 (wrap64 ((l0.length : Int) - (wrap64 (2 * (l1.length : Int))))) x6_1 = some r) ∧ Aside0 (kq ≤ k) ∧ Drawn0 w w')
    case atStart => exact ⟨(0), (by first | rfl | (simp; done) | (simp [*]; done)), H', ⟨Nat.le_refl _⟩, by repeat (first | exact Drawn0.refl _ | apply Drawn0.step)⟩
    case round =>
      clear H'
      try clear c1
      try clear p2
      try clear c3
      try clear c3b0
      obtain ⟨x6_1, rfl, HA, HK1, ⟨m1, rfl⟩⟩ := hrel
      cases gk with
      | zero => exact absurd HA.out (by simp [busbarlaw09_ends.l0])
      | succ k1 =>
        have H := HA.out
        clear HA
        simp only [busbarlaw09_ends.l0] at H
        by_cases c4 : x6_1 < (l1.length : Int)
        · rw [if_pos c4] at H
          have c4b0 : decide (x6_1 < (l1.length : Int)) = true := decide_eq_true c4
          clear c4
          obtain ⟨ji5, hji5⟩ : ∃ j_ : Int, (wrap64 ((wrap64 ((l0.length : Int) - (wrap64 (2 * (l1.length : Int))))) + (wrap64 (2 * x6_1)))) = j_ := ⟨_, rfl⟩
          replace H : (if 0 ≤ (ji5) then (if (ji5) < (l0.length : Int) then (if 0 ≤ x6_1 then (if (rd l0 (ji5)) = (((rd l1 x6_1) / 256) % 256) then (if 0 ≤ (wrap64 ((ji5) + 1)) then (if (wrap64 ((ji5) + 1)) < (l0.length : Int) then (if (rd l0 (wrap64 ((ji5) + 1))) = ((Go.bits .and .u16 (rd l1 x6_1) 255) % 256) then (busbarlaw09_ends.l0 k1 l0 l1 (wrap64 ((l0.length : Int) - (wrap64 (2 * (l1.length : Int))))) (wrap64 (x6_1 + 1))) else (some false)) else (none)) else (none)) else (some false)) else (none)) else (none)) else (none)) = some r := by first | (rw [hji5] at H; exact H) | (simp only [hji5] at H ⊢; exact H)
          have hji5w : (IntKind.i64.wrap ((wrap64 ((l0.length : Int) - (wrap64 (2 * (l1.length : Int))))) + (wrap64 (2 * x6_1)))) = ji5 := (i64_w _).trans hji5
          by_cases c6 : 0 ≤ (ji5)
          · rw [if_pos c6] at H
            have c6b0 : decide (0 ≤ (ji5)) = true := decide_eq_true c6
            clear c6
            by_cases c7 : (ji5) < (l0.length : Int)
            · rw [if_pos c7] at H
              have c7b0 : decide ((ji5) < (l0.length : Int)) = true := decide_eq_true c7
              clear c7
              by_cases c8 : 0 ≤ x6_1
              · rw [if_pos c8] at H
                have c8b0 : decide (0 ≤ x6_1) = true := decide_eq_true c8
                clear c8
                by_cases c9 : (rd l0 (ji5)) = (((rd l1 x6_1) / 256) % 256)
                · rw [if_pos c9] at H
                  have c9b0 : ((rd l0 (ji5)) == (((rd l1 x6_1) / 256) % 256)) = true := beq_iff_eq.mpr c9
                  have c9b1 : ((rd l0 (ji5)) != (((rd l1 x6_1) / 256) % 256)) = false := bne_eq_false_iff_eq.mpr c9
                  clear c9
                  obtain ⟨ji10, hji10⟩ : ∃ j_ : Int, (wrap64 ((ji5) + 1)) = j_ := ⟨_, rfl⟩
                  replace H : (if 0 ≤ (ji10) then (if (ji10) < (l0.length : Int) then (if (rd l0 (ji10)) = ((Go.bits .and .u16 (rd l1 x6_1) 255) % 256) then (busbarlaw09_ends.l0 k1 l0 l1 (wrap64 ((l0.length : Int) - (wrap64 (2 * (l1.length : Int))))) (wrap64 (x6_1 + 1))) else (some false)) else (none)) else (none)) = some r := by first | (rw [hji10] at H; exact H) | (simp only [hji10] at H ⊢; exact H)
                  have hji10w : (IntKind.i64.wrap ((ji5) + 1)) = ji10 := (i64_w _).trans hji10
                  by_cases c11 : 0 ≤ (ji10)
                  · rw [if_pos c11] at H
                    have c11b0 : decide (0 ≤ (ji10)) = true := decide_eq_true c11
                    clear c11
                    by_cases c12 : (ji10) < (l0.length : Int)
                    · rw [if_pos c12] at H
                      have c12b0 : decide ((ji10) < (l0.length : Int)) = true := decide_eq_true c12
                      clear c12
                      by_cases c13 : (rd l0 (ji10)) = ((Go.bits .and .u16 (rd l1 x6_1) 255) % 256)
                      · rw [if_pos c13] at H
                        have c13b0 : ((rd l0 (ji10)) == ((Go.bits .and .u16 (rd l1 x6_1) 255) % 256)) = true := beq_iff_eq.mpr c13
                        have c13b1 : ((rd l0 (ji10)) != ((Go.bits .and .u16 (rd l1 x6_1) 255) % 256)) = false := bne_eq_false_iff_eq.mpr c13
                        clear c13
                        have H' := Aside0.mk H
                        clear H
                        have p350 : 0 ≤ ((ji5) : Int) := of_decide_eq_true (by first | (with_reducible assumption) | assumption)
                        have q350 : (ji5) < (l0.length : Int) := of_decide_eq_true (by first | (with_reducible assumption) | assumption)
                        obtain ⟨ad350, e350, hx350_0⟩ := Kd.at_int HR0.out (ji5) p350 q350
                        cases e350
                        replace p350 := eq_true p350
                        replace q350 := eq_true q350
                        have p351 : 0 ≤ (x6_1 : Int) := of_decide_eq_true (by first | (with_reducible assumption) | assumption)
                        have q351 : x6_1 < (l1.length : Int) := of_decide_eq_true (by first | (with_reducible assumption) | assumption)
                        obtain ⟨ad351, e351, hx351_0⟩ := Kd.at_int HR1.out x6_1 p351 q351
                        cases e351
                        replace p351 := eq_true p351
                        replace q351 := eq_true q351
                        have p352 : 0 ≤ ((ji10) : Int) := of_decide_eq_true (by first | (with_reducible assumption) | assumption)
                        have q352 : (ji10) < (l0.length : Int) := of_decide_eq_true (by first | (with_reducible assumption) | assumption)
                        obtain ⟨ad352, e352, hx352_0⟩ := Kd.at_int HR0.out (ji10) p352 q352
                        obtain rfl : ad350 = ad352 := (by injection e352)
                        replace p352 := eq_true p352
                        replace q352 := eq_true q352
                        have p353 : 0 ≤ (x6_1 : Int) := of_decide_eq_true (by first | (with_reducible assumption) | assumption)
                        have q353 : x6_1 < (l1.length : Int) := of_decide_eq_true (by first | (with_reducible assumption) | assumption)
                        obtain ⟨ad353, e353, hx353_0⟩ := Kd.at_int HR1.out x6_1 p353 q353
                        obtain rfl : ad351 = ad353 := (by injection e353)
                        replace p353 := eq_true p353
                        replace q353 := eq_true q353
                        go_wp2
                        repeat (go_quiet (fail); try go_wp2)
                        go_roundg k1
                        case measure => have := HK1.out; omega
                        case rel => exact ⟨(wrap64 (x6_1 + 1)), (by first | rfl | (simp; done) | (simp [*]; done)), H', ⟨by have := HK1.out; omega⟩, by repeat (first | exact Drawn0.refl _ | apply Drawn0.step)⟩
                      · rw [if_neg c13] at H
                        have c13b0 : ((rd l0 (ji10)) == ((Go.bits .and .u16 (rd l1 x6_1) 255) % 256)) = false := beq_eq_false_iff_ne.mpr c13
                        have c13b1 : ((rd l0 (ji10)) != ((Go.bits .and .u16 (rd l1 x6_1) 255) % 256)) = true := bne_iff_ne.mpr c13
                        obtain rfl := Option.some.inj H
                        have p350 : 0 ≤ ((ji5) : Int) := of_decide_eq_true (by first | (with_reducible assumption) | assumption)
                        have q350 : (ji5) < (l0.length : Int) := of_decide_eq_true (by first | (with_reducible assumption) | assumption)
                        obtain ⟨ad350, e350, hx350_0⟩ := Kd.at_int HR0.out (ji5) p350 q350
                        cases e350
                        replace p350 := eq_true p350
                        replace q350 := eq_true q350
                        have p351 : 0 ≤ (x6_1 : Int) := of_decide_eq_true (by first | (with_reducible assumption) | assumption)
                        have q351 : x6_1 < (l1.length : Int) := of_decide_eq_true (by first | (with_reducible assumption) | assumption)
                        obtain ⟨ad351, e351, hx351_0⟩ := Kd.at_int HR1.out x6_1 p351 q351
                        cases e351
                        replace p351 := eq_true p351
                        replace q351 := eq_true q351
                        have p352 : 0 ≤ ((ji10) : Int) := of_decide_eq_true (by first | (with_reducible assumption) | assumption)
                        have q352 : (ji10) < (l0.length : Int) := of_decide_eq_true (by first | (with_reducible assumption) | assumption)
                        obtain ⟨ad352, e352, hx352_0⟩ := Kd.at_int HR0.out (ji10) p352 q352
                        obtain rfl : ad350 = ad352 := (by injection e352)
                        replace p352 := eq_true p352
                        replace q352 := eq_true q352
                        have p353 : 0 ≤ (x6_1 : Int) := of_decide_eq_true (by first | (with_reducible assumption) | assumption)
                        have q353 : x6_1 < (l1.length : Int) := of_decide_eq_true (by first | (with_reducible assumption) | assumption)
                        obtain ⟨ad353, e353, hx353_0⟩ := Kd.at_int HR1.out x6_1 p353 q353
                        obtain rfl : ad351 = ad353 := (by injection e353)
                        replace p353 := eq_true p353
                        replace q353 := eq_true q353
                        go_wp2
                        repeat (go_quiet (fail); try go_wp2)
                        go_ret
                        exact ⟨by first | rfl | (simp; done) | (simp only [← hji5, ← hji10] <;> (first | rfl | simp)) | (simp [*]; done), by repeat (first | exact Drawn0.refl _ | apply Drawn0.step)⟩
                    · rw [if_neg c12] at H
                      exact absurd H (by simp)
                  · rw [if_neg c11] at H
                    exact absurd H (by simp)
                · rw [if_neg c9] at H
                  have c9b0 : ((rd l0 (ji5)) == (((rd l1 x6_1) / 256) % 256)) = false := beq_eq_false_iff_ne.mpr c9
                  have c9b1 : ((rd l0 (ji5)) != (((rd l1 x6_1) / 256) % 256)) = true := bne_iff_ne.mpr c9
                  obtain rfl := Option.some.inj H
                  have p350 : 0 ≤ ((ji5) : Int) := of_decide_eq_true (by first | (with_reducible assumption) | assumption)
                  have q350 : (ji5) < (l0.length : Int) := of_decide_eq_true (by first | (with_reducible assumption) | assumption)
                  obtain ⟨ad350, e350, hx350_0⟩ := Kd.at_int HR0.out (ji5) p350 q350
                  cases e350
                  replace p350 := eq_true p350
                  replace q350 := eq_true q350
                  have p351 : 0 ≤ (x6_1 : Int) := of_decide_eq_true (by first | (with_reducible assumption) | assumption)
                  have q351 : x6_1 < (l1.length : Int) := of_decide_eq_true (by first | (with_reducible assumption) | assumption)
                  obtain ⟨ad351, e351, hx351_0⟩ := Kd.at_int HR1.out x6_1 p351 q351
                  cases e351
                  replace p351 := eq_true p351
                  replace q351 := eq_true q351
                  go_wp2
                  repeat (go_quiet (fail); try go_wp2)
                  go_ret
                  exact ⟨by first | rfl | (simp; done) | (simp only [← hji5] <;> (first | rfl | simp)) | (simp [*]; done), by repeat (first | exact Drawn0.refl _ | apply Drawn0.step)⟩
              · rw [if_neg c8] at H
                exact absurd H (by simp)
            · rw [if_neg c7] at H
              exact absurd H (by simp)
          · rw [if_neg c6] at H
            exact absurd H (by simp)
        · rw [if_neg c4] at H
          have c4b0 : decide (x6_1 < (l1.length : Int)) = false := decide_eq_false c4
          clear c4
          obtain rfl := Option.some.inj H
          go_wp2
          repeat (go_quiet (fail); try go_wp2)
          go_ret
          exact ⟨by first | rfl | (simp; done) | (simp [*]; done), by repeat (first | exact Drawn0.refl _ | apply Drawn0.step)⟩
end Go.Proofs.Ytmglilncdffbkaa.P
end
section
namespace Go.Proofs.Ytmglilncdffbkaa.Open
open Go.RowKit Go.ChangeShapes Go.WideShapes Go.Deep Go.Proofs.YtmglilncdffbkaaW.PrintWords
def Opens {H : Type} (enc : TypeId × Value → H) (P : Program) (w : World) (base : Nat) (held : Bool) (t : TypeId) {α : Type} (d : Kd α) (good : α → Prop) : Prop :=
  ∀ fuel cs x, DataW.trod enc P w base (fun _ => true) held fuel t cs = some x → ∃ y, d.K w y cs ∧ good y
section
variable {H : Type} {enc : TypeId × Value → H} {P : Program} {w : World} {base : Nat} {held : Bool} {α : Type}
theorem opens_int {t : TypeId} {k : IntKind} (ht : P.underlying t = some (.int k)) : Opens enc P w base held t (Kd.int k) (fun n => (Lit.int k n).wf = true) := by
  intro fuel cs x h
  obtain ⟨n, rfl, _, hw⟩ := DataW.trod_int ht h
  exact ⟨n, rfl, hw⟩
theorem opens_bool {t : TypeId} (ht : P.underlying t = some .bool) : Opens enc P w base held t Kd.bool (fun _ => True) := by
  intro fuel cs x h
  obtain ⟨b, rfl, _⟩ := DataW.trod_bool ht h
  exact ⟨b, rfl, trivial⟩
theorem opens_slice {t e : TypeId} {d : Kd α} {g : α → Prop} (ht : P.underlying t = some (.slice e)) (hc : P.cellsOf e = d.sz) (h : Opens enc P w base held e d g) :
    Opens enc P w base held t (Kd.slice e d) (fun l => l.length ≤ maxLen ∧ ∀ x ∈ l, g x) := by
  intro fuel cs x hx
  rcases open_slice ht hx with ⟨rfl, _⟩ | ⟨a, len, cap, m, n, D, Pl, rfl, _, hl, hm, hmm, _, hel⟩
  · exact ⟨[], ⟨none, 0, rfl, Nat.le_refl _, Kd.C_nil d w⟩, Nat.zero_le _, fun x hx => by cases hx⟩
  · simp only [if_true] at hmm
    subst hmm
    have hone : ∀ i : Fin len, ∃ y, (∃ c, c.length = d.sz ∧ d.K w y c ∧ ∀ j u, c[j]? = some u → w.cell? (a.add (i.val * d.sz + j)) = some u) ∧ g y := by
      intro i
      obtain ⟨cs', h1, h2⟩ := hel i.val (Nat.lt_of_lt_of_le i.isLt hl)
      obtain ⟨y, hk, hg⟩ := h n cs' _ h2
      rw [hc] at h1
      obtain ⟨_, h4, h5⟩ := World.cells?_some h1
      refine ⟨y, ⟨cs', h4, hk, fun j u hu => ?_⟩, hg⟩
      have hj : j < d.sz := by rw [← h4]; exact (List.getElem?_eq_some_iff.1 hu).1
      have := h5 j hj
      rw [hu] at this
      rw [← Addr.add_add]
      exact this
    let ys := List.ofFn fun i => Classical.choose (hone i)
    have hy : ys.length = len := by simp [ys]
    refine ⟨ys, ⟨some a, m, by rw [hy], by rw [hy]; exact hl, ?_⟩, by rw [hy]; exact Nat.le_trans hl hm, ?_⟩
    · refine ⟨rfl, by rw [hy]; exact Nat.le_trans hl hm, fun _ => ⟨a, rfl, fun j p hp => ?_⟩⟩
      have hj : j < len := by rw [← hy]; exact (List.getElem?_eq_some_iff.1 hp).1
      have : p = Classical.choose (hone ⟨j, hj⟩) := by
        simp only [ys, List.getElem?_ofFn, hj, dite_true] at hp
        exact (Option.some.inj hp).symm
      subst this
      exact (Classical.choose_spec (hone ⟨j, hj⟩)).1
    · intro x hx
      simp only [ys, List.mem_ofFn] at hx
      obtain ⟨i, rfl⟩ := hx
      exact (Classical.choose_spec (hone i)).2
theorem opens_at {fs : Array Field} {cs : List Value} {xs : List (DataW H × List MemPlace)} {n : Nat} {d : Kd α} {g : α → Prop}
    (hf : ∀ (i : Nat) (f : Field), fs[i]? = some f → DataW.trod enc P w base (fun _ => true) held n f.type ((cs.drop f.offset).take (P.cellsOf f.type)) = xs[i]?) (hlen : xs.length = fs.size)
    (hone : oneCellFields P fs = true) (i : Nat) (f : Field) (hi : fs[i]? = some f) (c : Value) (hc : cs[i]? = some c) (H1 : Opens enc P w base held f.type d g) : ∃ y, d.K w y [c] ∧ g y := by
  obtain ⟨o1, k1⟩ := hone_of hone i f hi
  have h := hf i f hi
  have hlt : i < xs.length := by rw [hlen]; exact (Array.getElem?_eq_some_iff.1 hi).1
  rw [o1, k1, List.getElem?_eq_getElem hlt] at h
  have hci := (List.getElem?_eq_some_iff.1 hc).1
  have hs : (cs.drop i).take 1 = [c] := by
    rw [List.drop_eq_getElem_cons hci, List.take_succ_cons, List.take_zero, (List.getElem?_eq_some_iff.1 hc).2]
  rw [hs] at h
  exact H1 n [c] _ h
theorem open_slice_arg {t e : TypeId} {d : Kd α} {g : α → Prop} {a : Option Addr} {len cap : Nat} {x : DataW H} {p : List MemPlace} (h : DataW.Trod enc P w base (fun _ => true) held t (.slice a len cap) x p)
    (H1 : Opens enc P w base held t (Kd.slice e d) (fun l => l.length ≤ maxLen ∧ ∀ x ∈ l, g x)) : ∃ l, len = l.length ∧ d.C w a l.length l ∧ l.length ≤ cap ∧ l.length ≤ maxLen ∧ ∀ x ∈ l, g x := by
  obtain ⟨fuel, hf⟩ := h
  obtain ⟨l, ⟨A, c, he, hl, hC⟩, h1, h2⟩ := H1 fuel _ _ hf
  simp [Value.cells] at he
  obtain ⟨rfl, rfl, rfl⟩ := he
  exact ⟨l, rfl, hC, hl, h1, h2⟩
end
end Go.Proofs.Ytmglilncdffbkaa.Open
end
