/- When two messages are one: code.Same, by what plain, slices.Equal and slices.EqualFunc answer. Conditions: numbers of their kind. -/
import Derived.Test.YtbilolgiihegiaaEv
import Derived.Test.YtbilolgiihegiaaPx9
import Derived.Test.YtbilolgiihegiaaPx10
import Derived.Test.YtbilolgiihegiaaPx12
import Derived.Test.YtbilolgiihegiaaPx14
import Derived.ChangeKeysEq
set_option linter.unusedVariables false
set_option linter.unusedSimpArgs false
namespace Go.Proofs.Ytbilolgiihegiaa.Same
open Go.RowKit Go.Proofs.Ytbilolgiihegiaa.P Go.Proofs.Ytbilolgiihegiaa.E Go.Proofs.YtbilolgiihegiaaW.PrintWords Go.Proofs.YtbilolgiihegiaaW.PrintLast Go.Proofs.YtbilolgiihegiaaW.PrintMore
/-- A message. -/
structure Msg where
  code : Int
  fail : Int
  addr : Int
  count : Int
  value : Int
  and_ : Int
  or_ : Int
  addr2 : Int
  sub : Int
  status : Int
  events : Int
  messages : Int
  words : List Int
  bits : List Bool
  data : List Int
  recs : List S50
  mei : Int
  kind : Int
  level : Int
  more : Int
  next : Int
  objects : List S52
def u8B (x : Int) : Bool := decide (0 ≤ x) && decide (x < 256)
def u16B (x : Int) : Bool := decide (0 ≤ x) && decide (x < 65536)
def listB {α : Type} (f : α → α → Bool) : List α → List α → Bool
  | [], [] => true
  | x :: xs, y :: ys => f x y && listB f xs ys
  | _, _ => false
def recB (a b : S50) : Bool := a.f0 == b.f0 && a.f1 == b.f1 && a.f2 == b.f2 && a.f3 == b.f3
def objB (a b : S52) : Bool := a.f0 == b.f0 && a.f1 == b.f1
def plainB (x y : Msg) : Bool := x.code == y.code && x.fail == y.fail && x.addr == y.addr && x.count == y.count && x.value == y.value && x.and_ == y.and_ && x.or_ == y.or_ && x.addr2 == y.addr2 && x.sub == y.sub && x.status == y.status && x.events == y.events && x.messages == y.messages && x.mei == y.mei && x.kind == y.kind && x.level == y.level && x.more == y.more && x.next == y.next
def sameB (x y : Msg) : Bool := plainB x y && x.words == y.words && x.bits == y.bits && x.data == y.data && listB recB x.recs y.recs && listB objB x.objects y.objects
/-- Numbers of their kind. -/
def okM (x : Msg) : Bool := u8B x.code && u8B x.fail && u16B x.addr && u16B x.count && u16B x.value && u16B x.and_ && u16B x.or_ && u16B x.addr2 && u16B x.sub && u16B x.status && u16B x.events && u16B x.messages && u8B x.mei && u8B x.kind && u8B x.level && u8B x.more && u8B x.next && x.data.all u8B && x.objects.all fun q => q.f1.all u8B
theorem info46 : (Try.prog.info? 24).map (fun i => (i.zero, i.size, i.bytes)) = some (some (.int .u16 0), 1, 2) := by kernel_rfl
def shB (a b : Int) : Int := Go.bits .or .u16 (a * 256) b
def plainL (m : Msg) : List Int := [m.code, m.fail, m.addr, m.count, m.value, m.and_, m.or_, m.addr2, m.sub, m.status, m.events, m.messages, (shB m.mei m.kind), (shB m.level m.more), m.next]
set_option maxHeartbeats 4000000 in
set_option maxRecDepth 100000 in
theorem plain_any (m : Msg) (Am12 : Option Addr) (cm12 : Nat) (Am13 : Option Addr) (cm13 : Nat) (Am14 : Option Addr) (cm14 : Nat) (Am15 : Option Addr) (cm15 : Nat) (Am21 : Option Addr) (cm21 : Nat) (w : World) (h00 : 0 ≤ m.code) (h01 : m.code < 256) (h10 : 0 ≤ m.fail) (h11 : m.fail < 256) (h160 : 0 ≤ m.mei) (h161 : m.mei < 256) (h170 : 0 ≤ m.kind) (h171 : m.kind < 256) (h180 : 0 ≤ m.level) (h181 : m.level < 256) (h190 : 0 ≤ m.more) (h191 : m.more < 256) (h200 : 0 ≤ m.next) (h201 : m.next < 256) :
    Calls Try.prog 26 #[.agg #[.int .u8 m.code, .int .u8 m.fail, .int .u16 m.addr, .int .u16 m.count, .int .u16 m.value, .int .u16 m.and_, .int .u16 m.or_, .int .u16 m.addr2, .int .u16 m.sub, .int .u16 m.status, .int .u16 m.events, .int .u16 m.messages, .slice Am12 m.words.length cm12, .slice Am13 m.bits.length cm13, .slice Am14 m.data.length cm14, .slice Am15 m.recs.length cm15, .int .u8 m.mei, .int .u8 m.kind, .int .u8 m.level, .int .u8 m.more, .int .u8 m.next, .slice Am21 m.objects.length cm21]] w fun e w' => e = .returned (.agg #[.int .u16 m.code, .int .u16 m.fail, .int .u16 m.addr, .int .u16 m.count, .int .u16 m.value, .int .u16 m.and_, .int .u16 m.or_, .int .u16 m.addr2, .int .u16 m.sub, .int .u16 m.status, .int .u16 m.events, .int .u16 m.messages, .int .u16 (shB m.mei m.kind), .int .u16 (shB m.level m.more), .int .u16 m.next]) ∧ Below w.heap.size w w' := by
  have hu1 := Try.underlying30
  have hu2 := Try.underlying55
  unfold shB
  go_enter Try.func26, Try.ntmps26
  go_wp2
  exact bodyPost_ret (v := .agg #[.int .u16 m.code, .int .u16 m.fail, .int .u16 m.addr, .int .u16 m.count, .int .u16 m.value, .int .u16 m.and_, .int .u16 m.or_, .int .u16 m.addr2, .int .u16 m.sub, .int .u16 m.status, .int .u16 m.events, .int .u16 m.messages, .int .u16 (Go.bits .or .u16 (m.mei * 256) m.kind), .int .u16 (Go.bits .or .u16 (m.level * 256) m.more), .int .u16 m.next]) (by simp [results, Try.results26, go_sem]) rfl ⟨rfl, ((Below.refl _ _).alloc (Nat.le_refl _) _).alloc (by simp) _⟩

section
variable {P : Program} {w : World} {d c e i : Nat} {xs ys : Array Value} {is : List Nat} {a b : Value} {r s : Bool}
theorem eqi_cons (ha : (part e xs (i * c)).run P w = .ok a w) (hb : (part e ys (i * c)).run P w = .ok b w) (he : (Op.equalIn d e a b).run P w = .ok r w) (hr : (Op.eqItems d e c xs ys is).run P w = .ok s w) : (Op.eqItems d e c xs ys (i :: is)).run P w = .ok (r && s) w := by
  simp only [Op.eqItems, Sem.run_bind, ha, hb, he, Result.andThen_ok]
  cases r
  · simp
  · simpa using hr
theorem eqi_nil : (Op.eqItems d e c xs ys []).run P w = .ok true w := by simp [Op.eqItems]
end
set_option maxHeartbeats 2000000 in
set_option maxRecDepth 100000 in
theorem eq15 (d : Nat) (w : World) (x0 x1 x2 x3 x4 x5 x6 x7 x8 x9 x10 x11 x12 x13 x14 y0 y1 y2 y3 y4 y5 y6 y7 y8 y9 y10 y11 y12 y13 y14 : Int) : (Op.equalIn (d + 3) 55 (.agg #[.int .u16 x0, .int .u16 x1, .int .u16 x2, .int .u16 x3, .int .u16 x4, .int .u16 x5, .int .u16 x6, .int .u16 x7, .int .u16 x8, .int .u16 x9, .int .u16 x10, .int .u16 x11, .int .u16 x12, .int .u16 x13, .int .u16 x14]) (.agg #[.int .u16 y0, .int .u16 y1, .int .u16 y2, .int .u16 y3, .int .u16 y4, .int .u16 y5, .int .u16 y6, .int .u16 y7, .int .u16 y8, .int .u16 y9, .int .u16 y10, .int .u16 y11, .int .u16 y12, .int .u16 y13, .int .u16 y14])).run Try.prog w = .ok ([x0, x1, x2, x3, x4, x5, x6, x7, x8, x9, x10, x11, x12, x13, x14] == [y0, y1, y2, y3, y4, y5, y6, y7, y8, y9, y10, y11, y12, y13, y14]) w := by
  obtain ⟨i0, hi, _⟩ := info_parts info46
  rw [run_equalIn_array w (d + 2) _ _ Try.underlying55 hi, show List.range 15 = [0, 1, 2, 3, 4, 5, 6, 7, 8, 9, 10, 11, 12, 13, 14] from rfl, show Try.prog.cellsOf 24 = 1 by kernel_rfl]
  have hc : ([x0, x1, x2, x3, x4, x5, x6, x7, x8, x9, x10, x11, x12, x13, x14] == [y0, y1, y2, y3, y4, y5, y6, y7, y8, y9, y10, y11, y12, y13, y14]) = (x0 == y0 && (x1 == y1 && (x2 == y2 && (x3 == y3 && (x4 == y4 && (x5 == y5 && (x6 == y6 && (x7 == y7 && (x8 == y8 && (x9 == y9 && (x10 == y10 && (x11 == y11 && (x12 == y12 && (x13 == y13 && (x14 == y14 && (true)))))))))))))))) := by simp only [List.cons_beq_cons]; rfl
  rw [hc]
  refine eqi_cons (by go_simp; rfl) (by go_simp; rfl) (by go_simp) ?_
  refine eqi_cons (by go_simp; rfl) (by go_simp; rfl) (by go_simp) ?_
  refine eqi_cons (by go_simp; rfl) (by go_simp; rfl) (by go_simp) ?_
  refine eqi_cons (by go_simp; rfl) (by go_simp; rfl) (by go_simp) ?_
  refine eqi_cons (by go_simp; rfl) (by go_simp; rfl) (by go_simp) ?_
  refine eqi_cons (by go_simp; rfl) (by go_simp; rfl) (by go_simp) ?_
  refine eqi_cons (by go_simp; rfl) (by go_simp; rfl) (by go_simp) ?_
  refine eqi_cons (by go_simp; rfl) (by go_simp; rfl) (by go_simp) ?_
  refine eqi_cons (by go_simp; rfl) (by go_simp; rfl) (by go_simp) ?_
  refine eqi_cons (by go_simp; rfl) (by go_simp; rfl) (by go_simp) ?_
  refine eqi_cons (by go_simp; rfl) (by go_simp; rfl) (by go_simp) ?_
  refine eqi_cons (by go_simp; rfl) (by go_simp; rfl) (by go_simp) ?_
  refine eqi_cons (by go_simp; rfl) (by go_simp; rfl) (by go_simp) ?_
  refine eqi_cons (by go_simp; rfl) (by go_simp; rfl) (by go_simp) ?_
  refine eqi_cons (by go_simp; rfl) (by go_simp; rfl) (by go_simp) ?_
  exact eqi_nil

theorem slices_Equal_uint16_uint16_loop (l m : List Int) (hl : (l.length : Int) ≤ 9223372036854775807) (he : l.length = m.length) (d : Nat) : ∀ k i, i ≤ l.length → l.length - i = d → d < k → slices_Equal_uint16_uint16.l0 k l m l.length i = some (l.drop i == m.drop i) := by
  induction d with
  | zero =>
    intro k i h1 h2 hk
    obtain ⟨k, rfl⟩ : ∃ m, k = m + 1 := ⟨k - 1, by omega⟩
    have c : ¬ (i : Int) < (l.length : Int) := by omega
    simp only [slices_Equal_uint16_uint16.l0]
    rw [if_neg c, List.drop_eq_nil_of_le (by omega), List.drop_eq_nil_of_le (by omega)]; rfl
  | succ d ih =>
    intro k i h1 h2 hk
    obtain ⟨k, rfl⟩ : ∃ m, k = m + 1 := ⟨k - 1, by omega⟩
    have c1 : (i : Int) < (l.length : Int) := by omega
    have c2 : (0 : Int) ≤ (i : Int) := by omega
    have c3 : (i : Int) < (m.length : Int) := by omega
    have d3 : (i : Int) + 1 = ((i + 1 : Nat) : Int) := by omega
    have e3 : ((i + 1 : Nat) : Int) < 9223372036854775808 := by omega
    have e4 : -9223372036854775808 ≤ ((i + 1 : Nat) : Int) := by omega
    have hn := ih k (i + 1) (by omega) (by omega) (by omega)
    rw [drop_cons (show i < l.length by omega) 0, drop_cons (show i < m.length by omega) 0]
    simp only [slices_Equal_uint16_uint16.l0]
    rw [if_pos c1, if_pos c2, if_pos c1, if_pos c3, d3, wrap64_id e4 e3, hn]
    have hr : ∀ x : List Int, rd x (i : Int) = x.getD i 0 := fun x => by simp [rd]
    rw [hr, hr, List.cons_beq_cons]
    generalize l.getD i 0 = x
    generalize m.getD i 0 = y
    by_cases h : x = y
    · subst h; simp
    · simp [h]
theorem slices_Equal_uint16_uint16_ev (l m : List Int) (hl : l.length ≤ 9223372036854775807) : Ev (fun k => slices_Equal_uint16_uint16.f k l m) (l == m) := by
  refine Ev.of (slices_Equal_uint16_uint16.mono l m) (k := l.length + 1) ?_
  unfold slices_Equal_uint16_uint16.f
  by_cases he : l.length = m.length
  · have h := slices_Equal_uint16_uint16_loop l m (by omega) he l.length (l.length + 1) 0 (by omega) (by omega) (by omega)
    rw [Int.natCast_zero] at h
    rw [if_pos (by rw [he]), h]; rfl
  · rw [if_neg (fun h => he (by omega))]
    congr 1
    symm
    rw [beq_eq_false_iff_ne]
    exact fun h => he (by rw [h])


theorem slices_Equal_bool_bool_loop (l m : List Bool) (hl : (l.length : Int) ≤ 9223372036854775807) (he : l.length = m.length) (d : Nat) : ∀ k i, i ≤ l.length → l.length - i = d → d < k → slices_Equal_bool_bool.l0 k l m l.length i = some (l.drop i == m.drop i) := by
  induction d with
  | zero =>
    intro k i h1 h2 hk
    obtain ⟨k, rfl⟩ : ∃ m, k = m + 1 := ⟨k - 1, by omega⟩
    have c : ¬ (i : Int) < (l.length : Int) := by omega
    simp only [slices_Equal_bool_bool.l0]
    rw [if_neg c, List.drop_eq_nil_of_le (by omega), List.drop_eq_nil_of_le (by omega)]; rfl
  | succ d ih =>
    intro k i h1 h2 hk
    obtain ⟨k, rfl⟩ : ∃ m, k = m + 1 := ⟨k - 1, by omega⟩
    have c1 : (i : Int) < (l.length : Int) := by omega
    have c2 : (0 : Int) ≤ (i : Int) := by omega
    have c3 : (i : Int) < (m.length : Int) := by omega
    have d3 : (i : Int) + 1 = ((i + 1 : Nat) : Int) := by omega
    have e3 : ((i + 1 : Nat) : Int) < 9223372036854775808 := by omega
    have e4 : -9223372036854775808 ≤ ((i + 1 : Nat) : Int) := by omega
    have hn := ih k (i + 1) (by omega) (by omega) (by omega)
    rw [drop_cons (show i < l.length by omega) false, drop_cons (show i < m.length by omega) false]
    simp only [slices_Equal_bool_bool.l0]
    rw [if_pos c1, if_pos c2, if_pos c1, if_pos c3, d3, wrap64_id e4 e3, hn]
    have hr : ∀ x : List Bool, rdOf false x (i : Int) = x.getD i false := fun x => by simp [rdOf]
    rw [hr, hr, List.cons_beq_cons]
    generalize l.getD i false = x
    generalize m.getD i false = y
    cases x <;> cases y <;> simp
theorem slices_Equal_bool_bool_ev (l m : List Bool) (hl : l.length ≤ 9223372036854775807) : Ev (fun k => slices_Equal_bool_bool.f k l m) (l == m) := by
  refine Ev.of (slices_Equal_bool_bool.mono l m) (k := l.length + 1) ?_
  unfold slices_Equal_bool_bool.f
  by_cases he : l.length = m.length
  · have h := slices_Equal_bool_bool_loop l m (by omega) he l.length (l.length + 1) 0 (by omega) (by omega) (by omega)
    rw [Int.natCast_zero] at h
    rw [if_pos (by rw [he]), h]; rfl
  · rw [if_neg (fun h => he (by omega))]
    congr 1
    symm
    rw [beq_eq_false_iff_ne]
    exact fun h => he (by rw [h])


theorem rec_ev (a b : S50) (hl : a.f3.length ≤ 9223372036854775807) : Ev (fun k => code_rec.f k a.f0 a.f1 a.f2 a.f3 b.f0 b.f1 b.f2 b.f3) (recB a b) := by
  unfold code_rec.f recB
  by_cases h0 : a.f0 = b.f0
  · refine pos h0 ?_
    by_cases h1 : a.f1 = b.f1
    · refine pos h1 ?_
      by_cases h2 : a.f2 = b.f2
      · refine pos h2 (Ev.bind (slices_Equal_uint16_uint16_ev a.f3 b.f3 hl) (ret ?_))
        simp [h0, h1, h2]
      · exact neg h2 (ret (by simp [h2]))
    · exact neg h1 (ret (by simp [h1]))
  · exact neg h0 (ret (by simp [h0]))
theorem u8_bytes {l : List Int} (h : l.all u8B = true) : isBytes l := by
  intro x hx
  have := List.all_eq_true.1 h x hx
  simp only [u8B, Bool.and_eq_true, decide_eq_true_eq] at this
  exact this
theorem obj_ev (a b : S52) (ha : a.f1.all u8B = true) (hb : b.f1.all u8B = true) : code_object.f a.f0 a.f1 b.f0 b.f1 = some (objB a b) := by
  unfold code_object.f objB
  by_cases h0 : a.f0 = b.f0
  · rw [if_pos h0, str_beq (u8_bytes ha) (u8_bytes hb)]; simp [h0]
  · rw [if_neg h0]; simp [h0]

theorem listB_len {α : Type} {f : α → α → Bool} : ∀ l m : List α, listB f l m = true → l.length = m.length
  | [], [], _ => rfl
  | x :: xs, y :: ys, h => by
    simp only [listB, Bool.and_eq_true] at h
    simp only [List.length_cons]
    rw [listB_len xs ys h.2]
  | [], y :: ys, h => by cases h
  | x :: xs, [], h => by cases h


set_option maxHeartbeats 4000000 in
set_option maxRecDepth 100000 in
theorem recs_any (A B : Option Addr) (c d : Nat) (l m : List S50) (w : World) (hA : Kd.C k50 w A l.length l) (hB : Kd.C k50 w B m.length m)  :
    Calls Try.prog 29 #[.slice A l.length c, .slice B m.length d, .func (.func 30) #[] #[]] w fun e w' => e = .returned (.bool (listB recB l m)) ∧ Below w.heap.size w w' := by
  have hll : l.length ≤ 9223372036854775807 := hA.2.1
  have HA := Aside0.mk hA
  have HB := Aside0.mk hB
  clear hA hB
  have hu := Try.underlying50
  by_cases hlen : l.length = m.length
  · have hLM := Aside0.mk hlen
    have t1 : (l.length == m.length) = true := beq_iff_eq.2 hlen
    have t2 : (l.length != m.length) = false := by rw [hlen]; simp
    have t3 : ((l.length : Int) == (m.length : Int)) = true := beq_iff_eq.2 (by omega)
    have t4 : ((l.length : Int) != (m.length : Int)) = false := by rw [hlen]; simp
    clear hlen
    go_enter Try.func29, Try.ntmps29
    go_wp2
    go_loopw [17] (fun i wr => ∃ k : Nat, k ≤ l.length ∧ i = .int .i64 k ∧ Aside0 (listB recB l m = listB recB (l.drop k) (m.drop k)) ∧ Aside0 (Below w.heap.size w wr)) (fun i _ => l.length - (intOf i).toNat)
    case atStart => exact ⟨0, Nat.zero_le _, rfl, ⟨rfl⟩, ⟨Below.refl _ _⟩⟩
    case round =>
      obtain ⟨k, hk, rfl, HL, HW⟩ := hrel
      by_cases hlt : k < l.length
      · have hlt2 : k < m.length := by rw [← hLM.out]; exact hlt
        obtain ⟨adA, A3, cA3, rfl, x0, x1, x2, x3, gA, qA⟩ := at_T50 HA.out (k : Int) (by omega) (by omega)
        obtain ⟨adB, B3, cB3, rfl, y0, y1, y2, y3, gB, qB⟩ := at_T50 HB.out (k : Int) (by omega) (by omega)
        have px0 := (HW.out.cell (World.block_lt_of_cell? w _ x0)).trans x0
        rw [Int.toNat_natCast] at px0
        clear x0
        have px1 := (HW.out.cell (World.block_lt_of_cell? w _ x1)).trans x1
        rw [Int.toNat_natCast] at px1
        clear x1
        have px2 := (HW.out.cell (World.block_lt_of_cell? w _ x2)).trans x2
        rw [Int.toNat_natCast] at px2
        clear x2
        have px3 := (HW.out.cell (World.block_lt_of_cell? w _ x3)).trans x3
        rw [Int.toNat_natCast] at px3
        clear x3
        have py0 := (HW.out.cell (World.block_lt_of_cell? w _ y0)).trans y0
        rw [Int.toNat_natCast] at py0
        clear y0
        have ay0 := fun o : Obj => ((below_alloc (Below.refl _ wr) o).cell (World.block_lt_of_cell? wr _ py0)).trans py0
        clear py0
        have py1 := (HW.out.cell (World.block_lt_of_cell? w _ y1)).trans y1
        rw [Int.toNat_natCast] at py1
        clear y1
        have ay1 := fun o : Obj => ((below_alloc (Below.refl _ wr) o).cell (World.block_lt_of_cell? wr _ py1)).trans py1
        clear py1
        have py2 := (HW.out.cell (World.block_lt_of_cell? w _ y2)).trans y2
        rw [Int.toNat_natCast] at py2
        clear y2
        have ay2 := fun o : Obj => ((below_alloc (Below.refl _ wr) o).cell (World.block_lt_of_cell? wr _ py2)).trans py2
        clear py2
        have py3 := (HW.out.cell (World.block_lt_of_cell? w _ y3)).trans y3
        rw [Int.toNat_natCast] at py3
        clear y3
        have ay3 := fun o : Obj => ((below_alloc (Below.refl _ wr) o).cell (World.block_lt_of_cell? wr _ py3)).trans py3
        clear py3
        have hdrop : listB recB (l.drop k) (m.drop k) = (recB (rd_T50 l k) (rd_T50 m k) && listB recB (l.drop (k + 1)) (m.drop (k + 1))) := by
          rw [drop_cons hlt z50, drop_cons hlt2 z50]; rfl
        have HD := Aside0.mk hdrop
        clear hdrop
        have HX := Aside0.mk qA
        have HY := Aside0.mk qB
        clear qA qB
        obtain ⟨kk, hpure⟩ := (rec_ev (rd_T50 l k) (rd_T50 m k) (HX.out.2.1)).rounds
        cases hcmp : recB (rd_T50 l k) (rd_T50 m k) with
        | true =>
          have HC := Aside0.mk hcmp
          rw [hcmp] at hpure
          have HP := Aside0.mk hpure
          clear hcmp hpure
          go_wp2_with (go_at_call 30; (with_reducible refine (code_rec.calls kk _ _ _ _ _ (rd_T50 l k).f3 _ _ _ _ _ (rd_T50 m k).f3 true _ ?side1 ?side2 ?side3 ?side4 HP.out).mono ?_); (case side1 => repeat (first | exact (Kd.C_below HX.out HW.out) | (with_reducible refine Kd.C_alloc ?_ _) | (with_reducible refine Kd.C_drewN ?_ _) | (with_reducible refine Kd.C_drew ?_))); (case side2 => exact gA); (case side3 => repeat (first | exact (Kd.C_below HY.out HW.out) | (with_reducible refine Kd.C_alloc ?_ _) | (with_reducible refine Kd.C_drewN ?_ _) | (with_reducible refine Kd.C_drew ?_))); (case side4 => exact gB); rintro e w2 ⟨rfl, hb2⟩; have HB2 := Aside0.mk (below_step (by repeat (first | (with_reducible first | exact HW.out | apply below_alloc | apply pw_below_drewN | apply below_drew1) | exact HW.out)) hb2); clear hb2)
          go_roundw
          case rel => exact ⟨k + 1, by omega, by go_num, ⟨by rw [HL.out, HD.out, HC.out]; rfl⟩, ⟨HB2.out⟩⟩
          case measure => simp [intOf]; omega
        | false =>
          have HC := Aside0.mk hcmp
          rw [hcmp] at hpure
          have HP := Aside0.mk hpure
          clear hcmp hpure
          go_wp2_with (go_at_call 30; (with_reducible refine (code_rec.calls kk _ _ _ _ _ (rd_T50 l k).f3 _ _ _ _ _ (rd_T50 m k).f3 false _ ?side1 ?side2 ?side3 ?side4 HP.out).mono ?_); (case side1 => repeat (first | exact (Kd.C_below HX.out HW.out) | (with_reducible refine Kd.C_alloc ?_ _) | (with_reducible refine Kd.C_drewN ?_ _) | (with_reducible refine Kd.C_drew ?_))); (case side2 => exact gA); (case side3 => repeat (first | exact (Kd.C_below HY.out HW.out) | (with_reducible refine Kd.C_alloc ?_ _) | (with_reducible refine Kd.C_drewN ?_ _) | (with_reducible refine Kd.C_drew ?_))); (case side4 => exact gB); rintro e w2 ⟨rfl, hb2⟩; have HB2 := Aside0.mk (below_step (by repeat (first | (with_reducible first | exact HW.out | apply below_alloc | apply pw_below_drewN | apply below_drew1) | exact HW.out)) hb2); clear hb2)
          go_ret
          exact ⟨by rw [HL.out, HD.out, HC.out]; rfl, HB2.out⟩
      · go_wp2
        go_ret
        have e1 : l.drop k = [] := List.drop_eq_nil_of_le (by omega)
        have e2 : m.drop k = [] := List.drop_eq_nil_of_le (by have := hLM.out; omega)
        exact ⟨by rw [HL.out, e1, e2]; rfl, HW.out⟩
  · have t1 : (l.length == m.length) = false := beq_eq_false_iff_ne.2 hlen
    have t2 : (l.length != m.length) = true := bne_iff_ne.2 hlen
    have t3 : ((l.length : Int) == (m.length : Int)) = false := beq_eq_false_iff_ne.2 (by omega)
    have t4 : ((l.length : Int) != (m.length : Int)) = true := bne_iff_ne.2 (by omega)
    have hne : listB recB l m = false := Bool.eq_false_iff.2 fun h => hlen (listB_len _ _ h)
    have HN := Aside0.mk hne
    clear hne hlen
    go_enter Try.func29, Try.ntmps29
    go_wp2
    go_ret
    exact ⟨by rw [HN.out]; rfl, Below.refl _ _⟩


set_option maxHeartbeats 4000000 in
set_option maxRecDepth 100000 in
theorem objs_any (A B : Option Addr) (c d : Nat) (l m : List S52) (w : World) (hA : Kd.C k52 w A l.length l) (hB : Kd.C k52 w B m.length m) (hin : ∀ x ∈ l, x.f1.all u8B = true) (hin2 : ∀ x ∈ m, x.f1.all u8B = true) :
    Calls Try.prog 31 #[.slice A l.length c, .slice B m.length d, .func (.func 32) #[] #[]] w fun e w' => e = .returned (.bool (listB objB l m)) ∧ Below w.heap.size w w' := by
  have hll : l.length ≤ 9223372036854775807 := hA.2.1
  have HA := Aside0.mk hA
  have HB := Aside0.mk hB
  clear hA hB
  have hu := Try.underlying52
  by_cases hlen : l.length = m.length
  · have hLM := Aside0.mk hlen
    have t1 : (l.length == m.length) = true := beq_iff_eq.2 hlen
    have t2 : (l.length != m.length) = false := by rw [hlen]; simp
    have t3 : ((l.length : Int) == (m.length : Int)) = true := beq_iff_eq.2 (by omega)
    have t4 : ((l.length : Int) != (m.length : Int)) = false := by rw [hlen]; simp
    clear hlen
    go_enter Try.func31, Try.ntmps31
    go_wp2
    go_loopw [17] (fun i wr => ∃ k : Nat, k ≤ l.length ∧ i = .int .i64 k ∧ Aside0 (listB objB l m = listB objB (l.drop k) (m.drop k)) ∧ Aside0 (Below w.heap.size w wr)) (fun i _ => l.length - (intOf i).toNat)
    case atStart => exact ⟨0, Nat.zero_le _, rfl, ⟨rfl⟩, ⟨Below.refl _ _⟩⟩
    case round =>
      obtain ⟨k, hk, rfl, HL, HW⟩ := hrel
      by_cases hlt : k < l.length
      · have hlt2 : k < m.length := by rw [← hLM.out]; exact hlt
        obtain ⟨adA, A1, cA1, rfl, x0, x1, gA, qA⟩ := at_T52 HA.out (k : Int) (by omega) (by omega)
        obtain ⟨adB, B1, cB1, rfl, y0, y1, gB, qB⟩ := at_T52 HB.out (k : Int) (by omega) (by omega)
        have px0 := (HW.out.cell (World.block_lt_of_cell? w _ x0)).trans x0
        rw [Int.toNat_natCast] at px0
        clear x0
        have px1 := (HW.out.cell (World.block_lt_of_cell? w _ x1)).trans x1
        rw [Int.toNat_natCast] at px1
        clear x1
        have py0 := (HW.out.cell (World.block_lt_of_cell? w _ y0)).trans y0
        rw [Int.toNat_natCast] at py0
        clear y0
        have ay0 := fun o : Obj => ((below_alloc (Below.refl _ wr) o).cell (World.block_lt_of_cell? wr _ py0)).trans py0
        clear py0
        have py1 := (HW.out.cell (World.block_lt_of_cell? w _ y1)).trans y1
        rw [Int.toNat_natCast] at py1
        clear y1
        have ay1 := fun o : Obj => ((below_alloc (Below.refl _ wr) o).cell (World.block_lt_of_cell? wr _ py1)).trans py1
        clear py1
        have hdrop : listB objB (l.drop k) (m.drop k) = (objB (rd_T52 l k) (rd_T52 m k) && listB objB (l.drop (k + 1)) (m.drop (k + 1))) := by
          rw [drop_cons hlt z52, drop_cons hlt2 z52]; rfl
        have HD := Aside0.mk hdrop
        clear hdrop
        have HX := Aside0.mk qA
        have HY := Aside0.mk qB
        clear qA qB
        have hpure := obj_ev (rd_T52 l k) (rd_T52 m k) (by unfold rd_T52; rw [Int.toNat_natCast, List.getD_eq_getElem?_getD, List.getElem?_eq_getElem hlt]; exact hin _ (List.getElem_mem hlt)) (by unfold rd_T52; rw [Int.toNat_natCast, List.getD_eq_getElem?_getD, List.getElem?_eq_getElem hlt2]; exact hin2 _ (List.getElem_mem hlt2))
        cases hcmp : objB (rd_T52 l k) (rd_T52 m k) with
        | true =>
          have HC := Aside0.mk hcmp
          rw [hcmp] at hpure
          have HP := Aside0.mk hpure
          clear hcmp hpure
          go_wp2_with (go_at_call 32; (with_reducible refine (code_object.calls _ _ _ (rd_T52 l k).f1 _ _ _ (rd_T52 m k).f1 true _ ?side1 ?side2 ?side3 ?side4 HP.out).mono ?_); (case side1 => repeat (first | exact (Kd.C_below HX.out HW.out) | (with_reducible refine Kd.C_alloc ?_ _) | (with_reducible refine Kd.C_drewN ?_ _) | (with_reducible refine Kd.C_drew ?_))); (case side2 => exact gA); (case side3 => repeat (first | exact (Kd.C_below HY.out HW.out) | (with_reducible refine Kd.C_alloc ?_ _) | (with_reducible refine Kd.C_drewN ?_ _) | (with_reducible refine Kd.C_drew ?_))); (case side4 => exact gB); rintro e w2 ⟨rfl, hb2⟩; have HB2 := Aside0.mk (below_step (by repeat (first | (with_reducible first | exact HW.out | apply below_alloc | apply pw_below_drewN | apply below_drew1) | exact HW.out)) hb2); clear hb2)
          go_roundw
          case rel => exact ⟨k + 1, by omega, by go_num, ⟨by rw [HL.out, HD.out, HC.out]; rfl⟩, ⟨HB2.out⟩⟩
          case measure => simp [intOf]; omega
        | false =>
          have HC := Aside0.mk hcmp
          rw [hcmp] at hpure
          have HP := Aside0.mk hpure
          clear hcmp hpure
          go_wp2_with (go_at_call 32; (with_reducible refine (code_object.calls _ _ _ (rd_T52 l k).f1 _ _ _ (rd_T52 m k).f1 false _ ?side1 ?side2 ?side3 ?side4 HP.out).mono ?_); (case side1 => repeat (first | exact (Kd.C_below HX.out HW.out) | (with_reducible refine Kd.C_alloc ?_ _) | (with_reducible refine Kd.C_drewN ?_ _) | (with_reducible refine Kd.C_drew ?_))); (case side2 => exact gA); (case side3 => repeat (first | exact (Kd.C_below HY.out HW.out) | (with_reducible refine Kd.C_alloc ?_ _) | (with_reducible refine Kd.C_drewN ?_ _) | (with_reducible refine Kd.C_drew ?_))); (case side4 => exact gB); rintro e w2 ⟨rfl, hb2⟩; have HB2 := Aside0.mk (below_step (by repeat (first | (with_reducible first | exact HW.out | apply below_alloc | apply pw_below_drewN | apply below_drew1) | exact HW.out)) hb2); clear hb2)
          go_ret
          exact ⟨by rw [HL.out, HD.out, HC.out]; rfl, HB2.out⟩
      · go_wp2
        go_ret
        have e1 : l.drop k = [] := List.drop_eq_nil_of_le (by omega)
        have e2 : m.drop k = [] := List.drop_eq_nil_of_le (by have := hLM.out; omega)
        exact ⟨by rw [HL.out, e1, e2]; rfl, HW.out⟩
  · have t1 : (l.length == m.length) = false := beq_eq_false_iff_ne.2 hlen
    have t2 : (l.length != m.length) = true := bne_iff_ne.2 hlen
    have t3 : ((l.length : Int) == (m.length : Int)) = false := beq_eq_false_iff_ne.2 (by omega)
    have t4 : ((l.length : Int) != (m.length : Int)) = true := bne_iff_ne.2 (by omega)
    have hne : listB objB l m = false := Bool.eq_false_iff.2 fun h => hlen (listB_len _ _ h)
    have HN := Aside0.mk hne
    clear hne hlen
    go_enter Try.func31, Try.ntmps31
    go_wp2
    go_ret
    exact ⟨by rw [HN.out]; rfl, Below.refl _ _⟩


def eqL (a b : List Int) : Bool := a == b
theorem eqL15 (d : Nat) (w : World) (x0 x1 x2 x3 x4 x5 x6 x7 x8 x9 x10 x11 x12 x13 x14 y0 y1 y2 y3 y4 y5 y6 y7 y8 y9 y10 y11 y12 y13 y14 : Int) : (Op.equalIn (d + 3) 55 (.agg #[.int .u16 x0, .int .u16 x1, .int .u16 x2, .int .u16 x3, .int .u16 x4, .int .u16 x5, .int .u16 x6, .int .u16 x7, .int .u16 x8, .int .u16 x9, .int .u16 x10, .int .u16 x11, .int .u16 x12, .int .u16 x13, .int .u16 x14]) (.agg #[.int .u16 y0, .int .u16 y1, .int .u16 y2, .int .u16 y3, .int .u16 y4, .int .u16 y5, .int .u16 y6, .int .u16 y7, .int .u16 y8, .int .u16 y9, .int .u16 y10, .int .u16 y11, .int .u16 y12, .int .u16 y13, .int .u16 y14])).run Try.prog w = .ok (eqL [x0, x1, x2, x3, x4, x5, x6, x7, x8, x9, x10, x11, x12, x13, x14] [y0, y1, y2, y3, y4, y5, y6, y7, y8, y9, y10, y11, y12, y13, y14]) w := eq15 d w x0 x1 x2 x3 x4 x5 x6 x7 x8 x9 x10 x11 x12 x13 x14 y0 y1 y2 y3 y4 y5 y6 y7 y8 y9 y10 y11 y12 y13 y14

theorem sh_eq (a b : Int) (ha : 0 ≤ a ∧ a < 256) (hb : 0 ≤ b ∧ b < 256) : shB a b = a * 256 + b := by
  unfold shB
  exact bits_join .u16 16 (by decide) (fun n h0 h1 => by simp [IntKind.wrap, IntKind.bits, IntKind.signed]; omega) 8 (a * 256) b (by omega) (by omega) (by omega) hb.1 (by omega) (by omega)
theorem plain_eq (x y : Msg) (vx0 : 0 ≤ x.code ∧ x.code < 256) (vx1 : 0 ≤ x.fail ∧ x.fail < 256) (vx16 : 0 ≤ x.mei ∧ x.mei < 256) (vx17 : 0 ≤ x.kind ∧ x.kind < 256) (vx18 : 0 ≤ x.level ∧ x.level < 256) (vx19 : 0 ≤ x.more ∧ x.more < 256) (vx20 : 0 ≤ x.next ∧ x.next < 256) (vy0 : 0 ≤ y.code ∧ y.code < 256) (vy1 : 0 ≤ y.fail ∧ y.fail < 256) (vy16 : 0 ≤ y.mei ∧ y.mei < 256) (vy17 : 0 ≤ y.kind ∧ y.kind < 256) (vy18 : 0 ≤ y.level ∧ y.level < 256) (vy19 : 0 ≤ y.more ∧ y.more < 256) (vy20 : 0 ≤ y.next ∧ y.next < 256) : eqL [x.code, x.fail, x.addr, x.count, x.value, x.and_, x.or_, x.addr2, x.sub, x.status, x.events, x.messages, shB x.mei x.kind, shB x.level x.more, x.next] [y.code, y.fail, y.addr, y.count, y.value, y.and_, y.or_, y.addr2, y.sub, y.status, y.events, y.messages, shB y.mei y.kind, shB y.level y.more, y.next] = plainB x y := by
  unfold eqL plainB
  rw [sh_eq x.mei x.kind vx16 vx17, sh_eq x.level x.more vx18 vx19, sh_eq y.mei y.kind vy16 vy17, sh_eq y.level y.more vy18 vy19, Bool.eq_iff_iff]
  simp only [beq_iff_eq, List.cons.injEq, Bool.and_eq_true, and_true]
  constructor
  · intro h
    obtain ⟨a0, a1, a2, a3, a4, a5, a6, a7, a8, a9, a10, a11, a12, a13, a14⟩ := h
    refine ⟨⟨⟨⟨⟨⟨⟨⟨⟨⟨⟨⟨⟨⟨⟨⟨a0, a1⟩, a2⟩, a3⟩, a4⟩, a5⟩, a6⟩, a7⟩, a8⟩, a9⟩, a10⟩, a11⟩, ?_⟩, ?_⟩, ?_⟩, ?_⟩, a14⟩ <;> omega
  · rintro ⟨⟨⟨⟨⟨⟨⟨⟨⟨⟨⟨⟨⟨⟨⟨⟨a0, a1⟩, a2⟩, a3⟩, a4⟩, a5⟩, a6⟩, a7⟩, a8⟩, a9⟩, a10⟩, a11⟩, a12⟩, a13⟩, a14⟩, a15⟩, a16⟩
    refine ⟨a0, a1, a2, a3, a4, a5, a6, a7, a8, a9, a10, a11, ?_, ?_, a16⟩ <;> omega

theorem bcell {W w1 : World} (hb : Below W.heap.size W w1) : (∀ b o, b < W.heap.size → w1.cell? ⟨b, o, none⟩ = W.cell? ⟨b, o, none⟩) ∧ (∀ b o, b < W.heap.size → w1.frozen? ⟨b, o, none⟩ = W.frozen? ⟨b, o, none⟩) :=
  ⟨fun b o h => hb.cell (p := ⟨b, o, none⟩) h, fun b o h => hb.frozen (p := ⟨b, o, none⟩) h⟩

theorem box_x (w : World) (cx cy : Array Value) (t : TypeId) (j : Nat) : ((w.alloc (.cells cx t)).alloc (.cells cy t)).drew.cell? ⟨w.heap.size, j, none⟩ = cx[j]? := by
  show (w.alloc (.cells cx t)|>.alloc (.cells cy t)).cell? ⟨w.heap.size, j, none⟩ = cx[j]?
  rw [World.cell?_alloc_lt _ _ _ (by show w.heap.size < (w.alloc (.cells cx t)).heap.size; simp)]
  unfold World.cell?
  rw [heap_alloc_new w (.cells cx t)]; rfl
theorem box_y (w : World) (cx cy : Array Value) (t : TypeId) (j : Nat) : ((w.alloc (.cells cx t)).alloc (.cells cy t)).drew.cell? ⟨w.heap.size + 1, j, none⟩ = cy[j]? := by
  show (w.alloc (.cells cx t)|>.alloc (.cells cy t)).cell? ⟨w.heap.size + 1, j, none⟩ = cy[j]?
  have h := heap_alloc_new (w.alloc (.cells cx t)) (.cells cy t)
  rw [show (w.alloc (.cells cx t)).heap.size = w.heap.size + 1 by simp] at h
  unfold World.cell?
  rw [h]; rfl

theorem exec_load_row {P : Program} {ev : Operand → Value} {o : Oper} {w : World} (ty : TypeId) (x : Operand) (ho : o.op = .load ty x) (g : Nat) (hx : ev x = .pointer (some ⟨g, 0, none⟩)) (t : TypeId) (cs : Array Value) (fr : Nat × Nat) (d : TypeDesc)
    (hg : w.heap[g]? = some (.cells cs t fr)) (hu : P.underlying ty = some d) (hd : (match d with | .struct _ | .array _ _ => true | _ => false) = true) (hi : (P.info? ty).map (·.size) = some cs.size) : (execOp ev o).run P w = .ok (.value (.agg cs)) w := by
  unfold execOp
  simp only [ho, hx, Instr.loadAt, Instr.sureAddr, Sem.run_bind, Sem.run_pure, Result.andThen_ok, run_loadVar_row w g t ty cs fr d hg hu hd hi]
theorem heap_x (w : World) (cx cy : Array Value) (t : TypeId) : ((w.alloc (.cells cx t)).alloc (.cells cy t)).drew.heap[w.heap.size]? = some (.cells cx t (0, 0)) := by
  show (w.alloc (.cells cx t)|>.alloc (.cells cy t)).heap[w.heap.size]? = _
  have h := heap_alloc_new w (.cells cx t)
  rw [← h]
  exact (below_alloc (Below.refl _ (w.alloc (.cells cx t))) (.cells cy t)).block _ (by simp)
theorem heap_y (w : World) (cx cy : Array Value) (t : TypeId) : ((w.alloc (.cells cx t)).alloc (.cells cy t)).drew.heap[w.heap.size + 1]? = some (.cells cy t (0, 0)) := by
  show (w.alloc (.cells cx t)|>.alloc (.cells cy t)).heap[w.heap.size + 1]? = _
  have h := heap_alloc_new (w.alloc (.cells cx t)) (.cells cy t)
  rw [show (w.alloc (.cells cx t)).heap.size = w.heap.size + 1 by simp] at h
  exact h
theorem heap_lt' {W : World} {k : Nat} {x : Obj} (h : W.heap[k]? = some x) : k < W.heap.size := (Array.getElem?_eq_some_iff.1 h).1

end Go.Proofs.Ytbilolgiihegiaa.Same
