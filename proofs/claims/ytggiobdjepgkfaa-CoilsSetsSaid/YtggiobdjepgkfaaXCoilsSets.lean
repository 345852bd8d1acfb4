/- The law CoilsSets: its walk, and the plain law. Conditions: what each theorem states. -/
import Derived.Test.YtggiobdjepgkfaaSD
set_option linter.unusedVariables false
set_option linter.unusedSimpArgs false
set_option maxHeartbeats 16000000
set_option maxRecDepth 100000
section
namespace Go.Proofs.Ytggiobdjepgkfaa.Laws
open Go.RowKit Go.Proofs.Ytggiobdjepgkfaa.P Go.Proofs.Ytggiobdjepgkfaa.E Go.Proofs.Ytggiobdjepgkfaa.Cur Go.Proofs.Ytggiobdjepgkfaa.Cu Go.Proofs.Ytggiobdjepgkfaa.Same Go.Proofs.Ytggiobdjepgkfaa.Bits Go.Proofs.Ytggiobdjepgkfaa.Put Go.Proofs.Ytggiobdjepgkfaa.Com Go.Proofs.Ytggiobdjepgkfaa.Coil Go.Proofs.YtggiobdjepgkfaaW.PrintWords Go.Proofs.YtggiobdjepgkfaaW.PrintLast Go.Proofs.YtggiobdjepgkfaaW.PrintMore
def lsets.T10 : Bool × List (List Nat × List Nat) := (true, [([], []), ([], []), ([1], [1]), ([2], [2]), ([0, 3], [0, 3]), ([4], [4]), ([], []), ([6], [6]), ([5, 7], [5, 7]), ([8], [8]), ([9], [9]), ([], []), ([], []), ([11, 12], [11, 12]), ([13], [13]), ([10, 14], [10, 14])])
def lsets.B10 : List Nat := [0, 0, 2, 6, 15, 31, 0, 64, 255, 511, 1023, 0, 0, 6144, 14336, 32767]
theorem lsets.tab10 : rtab .any (opsOf Try.f7 10) = lsets.T10 := by kernel_rfl
theorem lsets.bits10 : waitsOk lsets.T10.2 lsets.B10 = true := by kernel_rfl
def bm (n m : Nat) : Array Bool := ⟨(List.range n).map fun i => m.testBit i⟩
theorem CoilsSets_0 {addr : Int} {A : Option Addr} {c : Nat} {l : List Bool} {w : World} (hr : Kd.C Kd.bool w A l.length l) (hc : l.length ≤ c) (ha : 0 ≤ addr ∧ addr < 65536) (hl : 400 < l.length) :
    Calls Try.prog 7 #[.int .u16 addr, .slice A l.length c] w fun en w' => en = .returned (.bool true) ∧ Below w.heap.size w w' := by
  have H := Aside0.mk (Hd.start w)
  have n0_ := Aside0.mk ((H.out).add (sta_C _ _ _ _) (hr))
  clear H
  have H := n0_
  clear n0_
  have d1 : decide ((l.length : Int) > 400) = true := decide_eq_true (by omega)
  have d2 : decide ((400 : Int) < (l.length : Int)) = true := decide_eq_true (by omega)
  have HL := Aside0.mk hl
  clear hr
  go_enter Try.func7, Try.ntmps7
  go_wp2_with (first | (go_at_call 12; (with_reducible refine (awake_any _).mono ?_); rintro en wa ⟨rfl, hb_⟩; have n0_ := Aside0.mk (H.out.on hb_); clear H; have H := n0_; clear n0_; clear hb_))
  go_ret
  exact ⟨rfl, H.out.b⟩
theorem CoilsSets_1 {addr : Int} {A : Option Addr} {c : Nat} {l : List Bool} {w : World} (hr : Kd.C Kd.bool w A l.length l) (hc : l.length ≤ c) (ha : 0 ≤ addr ∧ addr < 65536) (hl : l.length ≤ 400) (h2 : l.length = 0) :
    Calls Try.prog 7 #[.int .u16 addr, .slice A l.length c] w fun en w' => en = .returned (.bool true) ∧ Below w.heap.size w w' := by
  have H := Aside0.mk (Hd.start w)
  have n0_ := Aside0.mk ((H.out).add (sta_C _ _ _ _) (hr))
  clear H
  have H := n0_
  clear n0_
  have d1 : decide ((l.length : Int) > 400) = false := decide_eq_false (by omega)
  have d2 : decide ((400 : Int) < (l.length : Int)) = false := decide_eq_false (by omega)
  have z0 : l.length = 0 := h2
  have z1 : ((l.length : Int) == 0) = true := beq_iff_eq.2 (by omega)
  have z2 : (l.length == 0) = true := beq_iff_eq.2 z0
  have HZ := Aside0.mk z0
  clear z0 h2
  have HL := Aside0.mk hl
  clear hr hl
  go_enter Try.func7, Try.ntmps7
  go_wp2_with (first | (go_at_call 12; (with_reducible refine (awake_any _).mono ?_); rintro en wa ⟨rfl, hb_⟩; have n0_ := Aside0.mk (H.out.on hb_); clear H; have H := n0_; clear n0_; clear hb_))
  go_ret
  exact ⟨rfl, H.out.b⟩
theorem CoilsSets_2 {addr : Int} {A : Option Addr} {c : Nat} {l : List Bool} {w : World} (hr : Kd.C Kd.bool w A l.length l) (hc : l.length ≤ c) (ha : 0 ≤ addr ∧ addr < 65536) (hl : 1 ≤ l.length ∧ l.length ≤ 400) (h2 : 65536 < addr + l.length) :
    Calls Try.prog 7 #[.int .u16 addr, .slice A l.length c] w fun en w' => en = .returned (.bool true) ∧ Below w.heap.size w w' := by
  have H := Aside0.mk (Hd.start w)
  have n0_ := Aside0.mk ((H.out).add (sta_C _ _ _ _) (hr))
  clear H
  have H := n0_
  clear n0_
  have d1 : decide ((l.length : Int) > 400) = false := decide_eq_false (by omega)
  have d2 : decide ((400 : Int) < (l.length : Int)) = false := decide_eq_false (by omega)
  have z1 : ((l.length : Int) == 0) = false := beq_eq_false_iff_ne.2 (by omega)
  have z2 : (l.length == 0) = false := beq_eq_false_iff_ne.2 (by omega)
  have w1 : IntKind.i64.wrap addr = addr := by rw [i64_w]; exact wrap64_id (by omega) (by omega)
  have w3 : wrap64 (addr + (l.length : Int)) = addr + (l.length : Int) := wrap64_id (by omega) (by omega)
  have d4 : decide (addr + (l.length : Int) > 65536) = true := decide_eq_true (by omega)
  have d5 : decide (65536 < addr + (l.length : Int)) = true := decide_eq_true (by omega)
  have HX := Aside0.mk h2
  clear h2
  have HL := Aside0.mk hl
  clear hr hl
  go_enter Try.func7, Try.ntmps7
  go_wp2_with (first | (go_at_call 12; (with_reducible refine (awake_any _).mono ?_); rintro en wa ⟨rfl, hb_⟩; have n0_ := Aside0.mk (H.out.on hb_); clear H; have H := n0_; clear n0_; clear hb_))
  go_ret
  exact ⟨rfl, H.out.b⟩
theorem at_nat {q : IntKind} {xs : List Int} {w : World} {A : Option Addr} {n : Nat} (h : (Kd.int q).C w A n xs) (i : Nat) (h1 : i < n) : ∃ ad, A = some ad ∧ w.cell? (ad.add i) = some (.int q (xs.getD i 0)) := by
  obtain ⟨ad, e, h2⟩ := Kd.at_int h (i : Int) (by omega) (by omega)
  rw [Int.toNat_natCast] at h2
  exact ⟨ad, e, h2.trans (by simp [rd])⟩
theorem at_natb {xs : List Bool} {w : World} {A : Option Addr} {n : Nat} (h : Kd.bool.C w A n xs) (i : Nat) (h1 : i < n) : ∃ ad, A = some ad ∧ w.cell? (ad.add i) = some (.bool (xs.getD i false)) := by
  obtain ⟨ad, e, h2⟩ := Kd.at_bool h (i : Int) (by omega) (by omega)
  rw [Int.toNat_natCast] at h2
  exact ⟨ad, e, h2.trans (by rw [rdOf_nat])⟩
theorem at_nat2 {q : IntKind} {xs : List Int} {w : World} {ad : Addr} {n : Nat} (h : (Kd.int q).C w (some ad) n xs) (i : Nat) (h1 : i < n) : w.cell? (ad.add i) = some (.int q (xs.getD i 0)) := by
  obtain ⟨ad', e, h2⟩ := at_nat h i h1
  cases e
  exact h2
theorem at_natb2 {xs : List Bool} {w : World} {ad : Addr} {n : Nat} (h : Kd.bool.C w (some ad) n xs) (i : Nat) (h1 : i < n) : w.cell? (ad.add i) = some (.bool (xs.getD i false)) := by
  obtain ⟨ad', e, h2⟩ := at_natb h i h1
  cases e
  exact h2
theorem writes_s {fn : Nat} {dir : Int} {m : Msg} {xs : List Int} {e : Int} (h : WriteC fn dir m (xs, e)) {n : Nat} (hn : xs.length = n) (hp : 0 < n) {cx : Array Value} {W : World} (hm : IsMsg W cx m) : Calls Try.prog fn #[.int .i64 dir, .agg cx] W fun en w' => ∃ ad c, en = .returned (.tuple #[.slice (some ad) n c, .int .i64 e]) ∧ n ≤ c ∧ Kd.C (Kd.int .u8) w' (some ad) n xs ∧ Below W.heap.size W w' := by
  refine (h.n hn hm).mono ?_
  rintro en w' ⟨A, c, rfl, hz, hr, hb⟩
  obtain ⟨ad, rfl, _⟩ := at_nat hr 0 hp
  exact ⟨ad, c, rfl, hz, hr, hb⟩
theorem shr_step (a : Act) (w : World) (xb : Int) (jr : Nat) (hx : a.tmps[60]?.getD undef = Value.int .u8 xb) (hy : a.tmps[62]?.getD undef = Value.int .i64 (jr : Int)) (mb : (0 ≤ (jr : Int)) = True) (mc : ((jr : Int) < 0) = False) (d : Array Edge) (p : String) : (execOp a.eval { dst := some 63, op := Op.binOp BinOp.shr 5 (Operand.tmp 60) (Operand.tmp 62) 3, type := 5, pos := p, after := d, guard := none }).run Try.prog w = .ok (.value (.int .u8 (xb / 2 ^ min jr 8))) w := by
  go_simp
theorem setB_get {a : Int} {l : List Bool} (i : Nat) : (putL [a, (l.length : Int)] ++ counted (packS l)).getD (5 + i) 0 = (packS l).getD i 0 := by
  show (_ :: _ :: _ :: _ :: _ :: packS l).getD (5 + i) 0 = _
  rw [Nat.add_comm]
  rfl
theorem setB_4 {a : Int} {l : List Bool} (h : l.length ≤ 400) : (putL [a, (l.length : Int)] ++ counted (packS l)).getD 4 0 = (bytesN l.length : Int) := by
  show ((packS l).length : Int) % 256 = _
  rw [packS_length]
  unfold bytesN
  omega
theorem setB_len {a : Int} {l : List Bool} : (putL [a, (l.length : Int)] ++ counted (packS l)).length = 5 + bytesN l.length := by
  have h := packS_length l
  rw [List.length_append, putL_length]
  unfold counted
  simp only [List.length_cons, List.length_nil]
  omega
theorem bit_told (l : List Bool) (j : Nat) (h : j < l.length) : (Go.bits .and .u8 (shr .u8 ((packS l).getD (j / 8) 0) ((j % 8 : Nat) : Int)) 1 == 1) = l.getD j false := by
  have h1 := and_at (packS_bytes l) j
  have h2 : rd (packS l) ((j / 8 : Nat) : Int) = (packS l).getD (j / 8) 0 := by unfold rd; rw [Int.toNat_natCast]
  rw [h2] at h1
  rw [h1, bitAt_packS]
  cases l.getD j false <;> rfl
theorem CoilsSets_3 {addr : Int} {A : Option Addr} {c : Nat} {l : List Bool} {w : World} (hr : Kd.C Kd.bool w A l.length l) (hc : l.length ≤ c) (ha : 0 ≤ addr ∧ addr < 65536) (hl : 1 ≤ l.length ∧ l.length ≤ 400) (h2 : addr + l.length ≤ 65536) :
    Calls Try.prog 7 #[.int .u16 addr, .slice A l.length c] w fun en w' => en = .returned (.bool true) ∧ Below w.heap.size w w' := by
  obtain ⟨al, rfl, _⟩ := at_natb hr 0 (by omega)
  have HB0 := Aside0.mk hr
  have HA := Aside0.mk ha
  have H := Aside0.mk (Hd.start w)
  have n0_ := Aside0.mk ((H.out).add (sta_C _ _ _ _) (hr))
  clear H
  have H := n0_
  clear n0_
  have d1 : decide ((l.length : Int) > 400) = false := decide_eq_false (by omega)
  have d2 : decide ((400 : Int) < (l.length : Int)) = false := decide_eq_false (by omega)
  have z1 : ((l.length : Int) == 0) = false := beq_eq_false_iff_ne.2 (by omega)
  have z2 : (l.length == 0) = false := beq_eq_false_iff_ne.2 (by omega)
  have d4 : decide (addr + (l.length : Int) > 65536) = false := decide_eq_false (by omega)
  have d5 : decide (65536 < addr + (l.length : Int)) = false := decide_eq_false (by omega)
  obtain ⟨q, hq⟩ : ∃ z, z = bytesN l.length := ⟨_, rfl⟩
  have hqb : q ≤ 50 := by rw [hq]; unfold bytesN; omega
  have hq8 : ∀ j, j < l.length → j / 8 < q := fun j hj => by rw [hq]; unfold bytesN; omega
  obtain ⟨B, hB⟩ : ∃ z, z = putL [addr, (l.length : Int)] ++ counted (packS l) := ⟨_, rfl⟩
  have HW := Aside0.mk (show WriteC 17 0 (mkB addr l) (B, 0) from mkB_c ha (by omega) (by rw [hB]; exact set_w ha hl.1 (by omega) h2))
  have HBN := Aside0.mk (show B.length = 5 + q from by rw [hB, hq]; exact setB_len)
  have HP0 := Aside0.mk (show 0 < 5 + q by omega)
  have HB4 := Aside0.mk (show B.getD 4 0 = (q : Int) from by rw [hB, hq]; exact setB_4 hl.2)
  have HBG := Aside0.mk (show ∀ i, B.getD (5 + i) 0 = (packS l).getD i 0 from fun i => by rw [hB]; exact setB_get i)
  have HQ8 := Aside0.mk hq8
  have HQB := Aside0.mk hqb
  have HL := Aside0.mk hl
  clear hq8 hB hr h2
  have Xw1 := Aside0.mk (show IntKind.i64.wrap addr = addr from by rw [i64_w]; exact wrap64_id (by omega) (by omega))
  have Xw3 := Aside0.mk (show wrap64 (addr + (l.length : Int)) = addr + (l.length : Int) from wrap64_id (by omega) (by omega))
  have Xw4 := Aside0.mk (show IntKind.u16.wrap (l.length : Int) = (l.length : Int) from by simp [IntKind.wrap, IntKind.signed, IntKind.bits]; omega)
  have Xt1 := Aside0.mk (show wrap64 ((l.length : Int) + 7) = (l.length : Int) + 7 from wrap64_id (by omega) (by omega))
  have Xt2 := Aside0.mk (show Int.tdiv ((l.length : Int) + 7) 8 = (q : Int) from by rw [tdiv_id (by omega), hq]; unfold bytesN; omega)
  have Xt3 := Aside0.mk (show wrap64 (5 + (q : Int)) = 5 + (q : Int) from wrap64_id (by omega) (by omega))
  have Xt4 := Aside0.mk (show wrap64 (5 + (q : Int) - 5) = (q : Int) from by rw [show 5 + (q : Int) - 5 = (q : Int) by omega]; exact wrap64_id (by omega) (by omega))
  have Xt5 := Aside0.mk (show wrap64 (q : Int) = (q : Int) from wrap64_id (by omega) (by omega))
  have Xt6 := Aside0.mk (show IntKind.i64.wrap (q : Int) = (q : Int) from by rw [i64_w]; exact wrap64_id (by omega) (by omega))
  clear hq ha hqb
  have w1 := Xw1.out
  have w3 := Xw3.out
  have w4 := Xw4.out
  have t1 := Xt1.out
  have t2 := Xt2.out
  have t3 := Xt3.out
  have t4 := Xt4.out
  have t5 := Xt5.out
  have t6 := Xt6.out
  go_enter Try.func7, Try.ntmps7
  go_upto_region 4 with (first | (go_at_call 12; (with_reducible refine (awake_any _).mono ?_); rintro en wa ⟨rfl, hb_⟩; have n0_ := Aside0.mk (H.out.on hb_); clear H; have H := n0_; clear n0_; clear hb_))
  go_upto_region 5 with (first | ((with_reducible refine gate_dst (N := 33) rfl ?_); (try (refine gate_guard (by rfl) ?_; dsimp only)); refine ev_build ((((zeroC.setIfInBounds 0 (.int .u8 15)).setIfInBounds 2 (.int .u16 addr)).setIfInBounds 3 (.int .u16 (l.length : Int))).setIfInBounds 13 (.slice (some al) l.length c)) rfl (by first | (go_simp; done) | (go_simp; rfl)) ?_; intro cm hcx_; have mx_ := (show IsMsg _ ((((zeroC.setIfInBounds 0 (.int .u8 15)).setIfInBounds 2 (.int .u16 addr)).setIfInBounds 3 (.int .u16 (l.length : Int))).setIfInBounds 13 (.slice (some al) l.length c)) (mkB addr l) from mkB_is HA.out (by have := HL.out; omega) H.out.f.2 hc); rw [← hcx_] at mx_; have n0_ := Aside0.mk ((H.out).add (sta_msg _ _) (mx_)); clear H; have H := n0_; clear n0_; clear hcx_ mx_) | (go_at_call 17; (with_reducible refine (writes_s HW.out (n := 5 + q) HBN.out HP0.out H.out.f.2).mono ?_); rintro en wb ⟨ab, cb, rfl, hz_, hr_, hb_⟩; have n0_ := Aside0.mk ((H.out.on hb_).add (sta_C _ _ _ _) (hr_)); clear H; have H := n0_; clear n0_; have Zb := Aside0.mk hz_; clear hb_ hr_ hz_))
  go_upto_region 7 with (fail)
  have HR1 := Aside0.mk H.out.f.2
  have HB1 := Aside0.mk H.out.b
  clear H
  go_wp2
  clear w1 w3 w4 t1 t2 t3 t4 t5 t6 d1 d2 d4 d5 z1 z2
  go_loopw [8] (fun i wr => ∃ j : Nat, j ≤ l.length ∧ i = .int .i64 j ∧ Aside0 ((Kd.int .u8).C wr (some ab) (5 + q) B) ∧ Aside0 (Below w.heap.size w wr)) (fun i _ => l.length - (intOf i).toNat)
  case atStart => exact ⟨0, Nat.zero_le _, rfl, HR1, HB1⟩
  case round =>
    obtain ⟨j, hj, rfl, HR2, HB2⟩ := hrel
    clear HR1 HB1
    by_cases hlt : j < l.length
    · have b5 : decide ((j : Int) < (l.length : Int)) = true := decide_eq_true (by omega)
      have b6 : (j < l.length) = True := eq_true hlt
      have b7 : ((j : Int) < (l.length : Int)) = True := eq_true (by omega)
      obtain ⟨jq, hjq⟩ : ∃ z, z = j / 8 := ⟨_, rfl⟩
      obtain ⟨jr, hjr⟩ : ∃ z, z = j % 8 := ⟨_, rfl⟩
      have hq1 : jq < q := by rw [hjq]; exact HQ8.out j hlt
      have hr8 : jr < 8 := by omega
      have p0 := at_nat2 HR2.out (5 + jq) (by omega)
      have p1_ := at_natb2 HB0.out j hlt
      have p1 := (HB2.out.cell (World.block_lt_of_cell? w _ p1_)).trans p1_
      clear p1_
      have hbt := bit_told l j hlt
      rw [← hjq, ← hjr, ← HBG.out jq] at hbt
      obtain ⟨xb, hxb⟩ : ∃ z, z = B.getD (5 + jq) 0 := ⟨_, rfl⟩
      obtain ⟨bj, hbj⟩ : ∃ z, z = l.getD j false := ⟨_, rfl⟩
      rw [← hxb] at p0 hbt
      rw [← hbj] at p1 hbt
      rw [show shr .u8 xb ((jr : Nat) : Int) = xb / 2 ^ min jr 8 by unfold shr; rw [Int.toNat_natCast]; rfl] at hbt
      clear hxb hbj
      have hl4 := HL.out.2
      have hqq := HQB.out
      have Xm1 := Aside0.mk (show Int.tdiv (j : Int) 8 = (jq : Int) from by rw [tdiv_id (by omega)]; omega)
      have Xm2 := Aside0.mk (show Int.tmod (j : Int) 8 = (jr : Int) from by rw [tmod_id (by omega)]; omega)
      have Xm3 := Aside0.mk (show wrap64 (5 + (jq : Int)) = 5 + (jq : Int) from wrap64_id (by omega) (by omega))
      have Xm4 := Aside0.mk (show wrap64 (jq : Int) = (jq : Int) from wrap64_id (by omega) (by omega))
      have Xm4' := Aside0.mk (show wrap64 (jr : Int) = (jr : Int) from wrap64_id (by omega) (by omega))
      have Xm6 := Aside0.mk (show (0 ≤ 5 + (jq : Int)) = True from eq_true (by omega))
      have Xm7 := Aside0.mk (show (5 + (jq : Int) < 5 + (q : Int)) = True from eq_true (by omega))
      have Xm8 := Aside0.mk (show (jq < q) = True from eq_true hq1)
      have Xm9 := Aside0.mk (show ((jq : Int) < (q : Int)) = True from eq_true (by omega))
      have Xmb := Aside0.mk (show (0 ≤ (jr : Int)) = True from eq_true (by omega))
      have Xmc := Aside0.mk (show ((jr : Int) < 0) = False from eq_false (by omega))
      obtain ⟨J1, hJ1⟩ : ∃ z, z = 5 + jq := ⟨_, rfl⟩
      have m5 : (5 + (jq : Int)).toNat = J1 := by omega
      rw [← hJ1] at p0
      have ma : (J1 < 5 + q) = True := eq_true (by omega)
      have HLT := Aside0.mk hlt
      clear hqq hJ1 hjq hjr hl4 hq1 hr8 hlt
      have m1 := Xm1.out
      have m2 := Xm2.out
      have m3 := Xm3.out
      have m4 := Xm4.out
      have m4' := Xm4'.out
      have m6 := Xm6.out
      have m7 := Xm7.out
      have m8 := Xm8.out
      have m9 := Xm9.out
      have mb := Xmb.out
      have mc := Xmc.out
      go_upto_region 10 with (fail)
      refine start_ (n := 16) (S := fun w' => w'.cell? (al.add j) = some (.bool bj) ∧ w'.cell? (ab.add J1) = some (.int .u8 xb) ∧ Aside0 (Below w.heap.size w w') ∧ Aside0 ((Kd.int .u8).C w' (some ab) (5 + q) B)) (ds := []) (bm 16 0) (by as_aux_lemma => kernel_rfl) rfl (by as_aux_lemma => kernel_rfl) ⟨p1, p0, ⟨HB2.out.drew⟩, ⟨Kd.C_below HR2.out (below_drew (Below.refl _ _))⟩⟩ (fun hHeld => ?_)
      refine with_tabW lsets.tab10 lsets.bits10 (fun HT_ HW_ => ?_)
      refine pure_ (i := 0) (N := some 55) (v := ?_) (a' := ?_) (bm 16 1) rfl rfl (any_of HT_.out (by as_aux_lemma => kernel_rfl)) (fun _ _ _ h => h) (Or.inl ⟨by rfl, ?_⟩) ?_ ?_
      rotate_left
      · intro w'
        go_simp
        with_reducible rfl
      rotate_left
      · simp only [Act.put, List.setIfInBounds_toArray, List.set_cons_zero, List.set_cons_succ, i64_w, i32_w]
        rfl
      refine pure_ (i := 1) (N := some 56) (v := ?_) (a' := ?_) (bm 16 3) rfl rfl (any_of HT_.out (by as_aux_lemma => kernel_rfl)) (fun _ _ _ h => h) (Or.inl ⟨by rfl, ?_⟩) ?_ ?_
      rotate_left
      · intro w'
        go_simp
        with_reducible rfl
      rotate_left
      · simp only [Act.put, List.setIfInBounds_toArray, List.set_cons_zero, List.set_cons_succ, i64_w, i32_w]
        rfl
      refine pure_ (i := 2) (N := some 57) (v := ?_) (a' := ?_) (bm 16 7) rfl rfl (any_of HT_.out (by as_aux_lemma => kernel_rfl)) (fun _ _ _ h => h) (Or.inl ⟨by rfl, ?_⟩) ?_ ?_
      rotate_left
      · intro w'
        go_simp
        with_reducible rfl
      rotate_left
      · simp only [Act.put, List.setIfInBounds_toArray, List.set_cons_zero, List.set_cons_succ, i64_w, i32_w]
        rfl
      refine pure_ (i := 3) (N := some 58) (v := ?_) (a' := ?_) (bm 16 15) rfl rfl (any_of HT_.out (by as_aux_lemma => kernel_rfl)) (fun _ _ _ h => h) (Or.inl ⟨by rfl, ?_⟩) ?_ ?_
      rotate_left
      · intro w'
        go_simp
        with_reducible rfl
      rotate_left
      · simp only [Act.put, List.setIfInBounds_toArray, List.set_cons_zero, List.set_cons_succ, i64_w, i32_w]
        rfl
      refine pure_ (i := 4) (N := some 59) (v := ?_) (a' := ?_) (bm 16 31) rfl rfl (any_of HT_.out (by as_aux_lemma => kernel_rfl)) (fun _ _ _ h => h) (Or.inl ⟨by rfl, ?_⟩) ?_ ?_
      rotate_left
      · intro w'
        go_simp
        with_reducible rfl
      rotate_left
      · simp only [Act.put, List.setIfInBounds_toArray, List.set_cons_zero, List.set_cons_succ, i64_w, i32_w]
        rfl
      refine pure_ (i := 6) (N := some 61) (v := ?_) (a' := ?_) (bm 16 95) rfl rfl (any_of HT_.out (by as_aux_lemma => kernel_rfl)) (fun _ _ _ h => h) (Or.inl ⟨by rfl, ?_⟩) ?_ ?_
      rotate_left
      · intro w'
        go_simp
        with_reducible rfl
      rotate_left
      · simp only [Act.put, List.setIfInBounds_toArray, List.set_cons_zero, List.set_cons_succ, i64_w, i32_w]
        rfl
      refine pure_ (i := 7) (N := some 62) (v := ?_) (a' := ?_) (bm 16 223) rfl rfl (any_of HT_.out (by as_aux_lemma => kernel_rfl)) (fun _ _ _ h => h) (Or.inl ⟨by rfl, ?_⟩) ?_ ?_
      rotate_left
      · intro w'
        go_simp
        with_reducible rfl
      rotate_left
      · simp only [Act.put, List.setIfInBounds_toArray, List.set_cons_zero, List.set_cons_succ, i64_w, i32_w]
        rfl
      refine pure_ (i := 11) (N := some 66) (v := ?_) (a' := ?_) (bm 16 2271) rfl rfl (any_of HT_.out (by as_aux_lemma => kernel_rfl)) (fun _ _ _ h => h) (Or.inl ⟨by rfl, ?_⟩) ?_ ?_
      rotate_left
      · intro w'
        go_simp
        with_reducible rfl
      rotate_left
      · simp only [Act.put, List.setIfInBounds_toArray, List.set_cons_zero, List.set_cons_succ, i64_w, i32_w]
        rfl
      refine pure_ (i := 12) (N := some 67) (v := ?_) (a' := ?_) (bm 16 6367) rfl rfl (any_of HT_.out (by as_aux_lemma => kernel_rfl)) (fun _ _ _ h => h) (Or.inl ⟨by rfl, ?_⟩) ?_ ?_
      rotate_left
      · intro w'
        go_simp
        with_reducible rfl
      rotate_left
      · simp only [Act.put, List.setIfInBounds_toArray, List.set_cons_zero, List.set_cons_succ, i64_w, i32_w]
        rfl
      refine pure_ (i := 13) (N := some 68) (v := ?_) (a' := ?_) (bm 16 14559) rfl rfl (any_of HT_.out (by as_aux_lemma => kernel_rfl)) (fun _ _ _ h => h) (Or.inl ⟨by rfl, ?_⟩) ?_ ?_
      rotate_left
      · intro w'
        go_simp
        with_reducible rfl
      rotate_left
      · simp only [Act.put, List.setIfInBounds_toArray, List.set_cons_zero, List.set_cons_succ, i64_w, i32_w]
        rfl
      refine take_ (i := 5) (N := some 60) (v := ?_) (a' := ?_) (bm 16 14591) rfl rfl (take_ofW HT_.out HW_.out (by as_aux_lemma => kernel_rfl)) (fun _ _ _ h => h) (Or.inl ⟨by rfl, ?_⟩) hHeld ?_ ?_
      rotate_left
      · rintro w' ⟨s0, s1, s2, s3⟩
        go_simp
        with_reducible rfl
      rotate_left
      · simp only [Act.put, List.setIfInBounds_toArray, List.set_cons_zero, List.set_cons_succ, i64_w, i32_w]
        rfl
      refine pure_ (i := 8) (N := some 63) (v := ?_) (a' := ?_) (bm 16 14847) rfl rfl (any_of HT_.out (by as_aux_lemma => kernel_rfl)) (fun _ _ _ h => h) (Or.inl ⟨by rfl, ?_⟩) ?_ ?_
      rotate_left
      · intro w'
        refine shr_step _ _ xb jr ?_ ?_ mb mc _ _
        · rfl
        · rfl
      rotate_left
      · simp only [Act.put, List.setIfInBounds_toArray, List.set_cons_zero, List.set_cons_succ, i64_w, i32_w]
        rfl
      refine pure_ (i := 9) (N := some 64) (v := ?_) (a' := ?_) (bm 16 15359) rfl rfl (any_of HT_.out (by as_aux_lemma => kernel_rfl)) (fun _ _ _ h => h) (Or.inl ⟨by rfl, ?_⟩) ?_ ?_
      rotate_left
      · intro w'
        go_simp
        with_reducible rfl
      rotate_left
      · simp only [Act.put, List.setIfInBounds_toArray, List.set_cons_zero, List.set_cons_succ, i64_w, i32_w]
        rfl
      refine pure_ (i := 10) (N := some 65) (v := ?_) (a' := ?_) (bm 16 16383) rfl rfl (any_of HT_.out (by as_aux_lemma => kernel_rfl)) (fun _ _ _ h => h) (Or.inl ⟨by rfl, ?_⟩) ?_ ?_
      rotate_left
      · intro w'
        go_simp
        with_reducible rfl
      rotate_left
      · simp only [Act.put, List.setIfInBounds_toArray, List.set_cons_zero, List.set_cons_succ, i64_w, i32_w]
        rfl
      refine take_ (i := 14) (N := some 69) (v := ?_) (a' := ?_) (bm 16 32767) rfl rfl (take_ofW HT_.out HW_.out (by as_aux_lemma => kernel_rfl)) (fun _ _ _ h => h) (Or.inl ⟨by rfl, ?_⟩) hHeld ?_ ?_
      rotate_left
      · rintro w' ⟨s0, s1, s2, s3⟩
        go_simp
        with_reducible rfl
      rotate_left
      · simp only [Act.put, List.setIfInBounds_toArray, List.set_cons_zero, List.set_cons_succ, i64_w, i32_w]
        rfl
      refine pure_ (i := 15) (N := some 70) (v := ?_) (a' := ?_) (bm 16 65535) rfl rfl (any_of HT_.out (by as_aux_lemma => kernel_rfl)) (fun _ _ _ h => h) (Or.inl ⟨by rfl, ?_⟩) ?_ ?_
      rotate_left
      · intro w'
        go_simp
        with_reducible rfl
      rotate_left
      · simp only [Act.put, List.setIfInBounds_toArray, List.set_cons_zero, List.set_cons_succ, i64_w, i32_w]
        rfl
      refine done_ (done_of HT_.out (by as_aux_lemma => kernel_rfl)) ?_
      go_wp2
      go_roundw
      case rel => exact ⟨j + 1, (by have h_ := HLT.out; clear m1 m2 m3 m4 m4'; omega), by go_num, (by exact hHeld.2.2.2), (by exact hHeld.2.2.1)⟩
      case measure => have h_ := HLT.out; clear m1 m2 m3 m4 m4'; simp [intOf]; omega
    · have b5 : decide ((j : Int) < (l.length : Int)) = false := decide_eq_false (by omega)
      have p0 := at_nat2 HR2.out 4 (by omega)
      rw [HB4.out] at p0
      have hqq := HQB.out
      have m7 : ((4 : Int) < 5 + (q : Int)) = True := eq_true (by omega)
      have m8 : (4 < 5 + q) = True := eq_true (by omega)
      have t4 := Xt4.out
      have t5 := Xt5.out
      have t6 := Xt6.out
      replace p0 : wr.cell? ⟨ab.block, ab.off + 4, none⟩ = some (.int .u8 (q : Int)) := p0
      go_wp2
      go_ret
      exact ⟨by first | rfl | (simp; done) | (clear t4 t5 t6; simp; omega), HB2.out⟩
theorem busbarlaw08_CoilsSets (addr : Int) (A : Option Addr) (c : Nat) (l : List Bool) (w : World) (hr : Kd.C Kd.bool w A l.length l) (hc : l.length ≤ c) (ha : (Lit.int .u16 addr).wf = true) {p1 : Prop} (_ : p1) {p2 : Prop} (_ : p2) :
    Calls Try.prog 7 #[.int .u16 addr, .slice A l.length c] w fun en w' => en = .returned (.bool true) ∧ Below w.heap.size w w' := by
  have ha := u16_wf ha
  by_cases h1 : 400 < l.length
  · exact CoilsSets_0 hr hc ha h1
  by_cases h2 : l.length = 0
  · exact CoilsSets_1 hr hc ha (by omega) h2
  by_cases h3 : 65536 < addr + l.length
  · exact CoilsSets_2 hr hc ha ⟨by omega, by omega⟩ h3
  · exact CoilsSets_3 hr hc ha ⟨by omega, by omega⟩ (by omega)
end Go.Proofs.Ytggiobdjepgkfaa.Laws
end
