/- A message's cells as one; what code.Same, busbarref07.Same and busbarref07.Few tell of messages. -/
import Derived.Test.YtbilolgiihegiaaRefSame
import Derived.Test.YtbilolgiihegiaaFew
set_option linter.unusedVariables false
set_option linter.unusedSimpArgs false
namespace Go.Proofs.Ytbilolgiihegiaa.Same
open Go.RowKit Go.Proofs.Ytbilolgiihegiaa.P Go.Proofs.Ytbilolgiihegiaa.E Go.Proofs.YtbilolgiihegiaaW.PrintWords Go.Proofs.YtbilolgiihegiaaW.PrintLast Go.Proofs.YtbilolgiihegiaaW.PrintMore
def goodRec (r : S50) : Prop := (0 ≤ r.f0 ∧ r.f0 < 65536) ∧ (0 ≤ r.f1 ∧ r.f1 < 65536) ∧ (0 ≤ r.f2 ∧ r.f2 < 65536) ∧ ∀ x ∈ r.f3, 0 ≤ x ∧ x < 65536
/-- Numbers of their kind, in the lists too. -/
def goodM (m : Msg) : Prop := okM m = true ∧ (∀ x ∈ m.words, 0 ≤ x ∧ x < 65536) ∧ (∀ r ∈ m.recs, goodRec r) ∧ ∀ o ∈ m.objects, 0 ≤ o.f0 ∧ o.f0 < 256
/-- The cells of a message, with what its lists lie in. -/
def IsMsg (w : World) (cx : Array Value) (m : Msg) : Prop :=
  ∃ (A12 : Option Addr) (c12 : Nat) (A13 : Option Addr) (c13 : Nat) (A14 : Option Addr) (c14 : Nat) (A15 : Option Addr) (c15 : Nat) (A21 : Option Addr) (c21 : Nat), cx = #[.int .u8 m.code, .int .u8 m.fail, .int .u16 m.addr, .int .u16 m.count, .int .u16 m.value, .int .u16 m.and_, .int .u16 m.or_, .int .u16 m.addr2, .int .u16 m.sub, .int .u16 m.status, .int .u16 m.events, .int .u16 m.messages, .slice A12 m.words.length c12, .slice A13 m.bits.length c13, .slice A14 m.data.length c14, .slice A15 m.recs.length c15, .int .u8 m.mei, .int .u8 m.kind, .int .u8 m.level, .int .u8 m.more, .int .u8 m.next, .slice A21 m.objects.length c21] ∧ goodM m ∧ (Kd.C (Kd.int .u16) w A12 m.words.length m.words ∧ m.words.length ≤ c12) ∧ (Kd.C Kd.bool w A13 m.bits.length m.bits ∧ m.bits.length ≤ c13) ∧ (Kd.C (Kd.int .u8) w A14 m.data.length m.data ∧ m.data.length ≤ c14) ∧ (Kd.C k50 w A15 m.recs.length m.recs ∧ m.recs.length ≤ c15) ∧ (Kd.C k52 w A21 m.objects.length m.objects ∧ m.objects.length ≤ c21)
theorem IsMsg.on {w w' : World} {cx : Array Value} {m : Msg} (h : IsMsg w cx m) (hb : Below w.heap.size w w') : IsMsg w' cx m := by
  obtain ⟨A12, c12, A13, c13, A14, c14, A15, c15, A21, c21, rfl, ok, ⟨hr12, hc12⟩, ⟨hr13, hc13⟩, ⟨hr14, hc14⟩, ⟨hr15, hc15⟩, ⟨hr21, hc21⟩⟩ := h
  exact ⟨A12, c12, A13, c13, A14, c14, A15, c15, A21, c21, rfl, ok, ⟨Kd.C_below hr12 hb, hc12⟩, ⟨Kd.C_below hr13 hb, hc13⟩, ⟨Kd.C_below hr14 hb, hc14⟩, ⟨Kd.C_below hr15 hb, hc15⟩, ⟨Kd.C_below hr21 hb, hc21⟩⟩
theorem IsMsg.size {w : World} {cx : Array Value} {m : Msg} (h : IsMsg w cx m) : cx.size = 22 := by
  obtain ⟨A12, c12, A13, c13, A14, c14, A15, c15, A21, c21, rfl, ok, ⟨hr12, hc12⟩, ⟨hr13, hc13⟩, ⟨hr14, hc14⟩, ⟨hr15, hc15⟩, ⟨hr21, hc21⟩⟩ := h
  rfl
theorem IsMsg.ok {w : World} {cx : Array Value} {m : Msg} (h : IsMsg w cx m) : okM m = true := by
  obtain ⟨A12, c12, A13, c13, A14, c14, A15, c15, A21, c21, rfl, ok, ⟨hr12, hc12⟩, ⟨hr13, hc13⟩, ⟨hr14, hc14⟩, ⟨hr15, hc15⟩, ⟨hr21, hc21⟩⟩ := h
  exact ok.1
theorem same_msg {cx cy : Array Value} {x y : Msg} {w : World} (hx : IsMsg w cx x) (hy : IsMsg w cy y) : Calls Try.prog 24 #[.agg cx, .agg cy] w fun e w' => e = .returned (.bool (sameB x y)) ∧ Below w.heap.size w w' := by
  obtain ⟨Ax12, cx12, Ax13, cx13, Ax14, cx14, Ax15, cx15, Ax21, cx21, rfl, okx, ⟨hrx12, hcx12⟩, ⟨hrx13, hcx13⟩, ⟨hrx14, hcx14⟩, ⟨hrx15, hcx15⟩, ⟨hrx21, hcx21⟩⟩ := hx
  obtain ⟨Ay12, cy12, Ay13, cy13, Ay14, cy14, Ay15, cy15, Ay21, cy21, rfl, oky, ⟨hry12, hcy12⟩, ⟨hry13, hcy13⟩, ⟨hry14, hcy14⟩, ⟨hry15, hcy15⟩, ⟨hry21, hcy21⟩⟩ := hy
  exact same_any x y Ax12 cx12 Ax13 cx13 Ax14 cx14 Ax15 cx15 Ax21 cx21 Ay12 cy12 Ay13 cy13 Ay14 cy14 Ay15 cy15 Ay21 cy21 w hrx12 hcx12 hrx13 hcx13 hrx14 hcx14 hrx15 hcx15 hrx21 hcx21 hry12 hcy12 hry13 hcy13 hry14 hcy14 hry15 hcy15 hry21 hcy21 okx.1 oky.1
theorem refsame_msg {cx cy : Array Value} {x y : Msg} {w : World} (hx : IsMsg w cx x) (hy : IsMsg w cy y) : Calls Try.prog 10 #[.agg cx, .agg cy] w fun e w' => e = .returned (.bool (sameB x y)) ∧ Below w.heap.size w w' := by
  obtain ⟨Ax12, cx12, Ax13, cx13, Ax14, cx14, Ax15, cx15, Ax21, cx21, rfl, okx, ⟨hrx12, hcx12⟩, ⟨hrx13, hcx13⟩, ⟨hrx14, hcx14⟩, ⟨hrx15, hcx15⟩, ⟨hrx21, hcx21⟩⟩ := hx
  obtain ⟨Ay12, cy12, Ay13, cy13, Ay14, cy14, Ay15, cy15, Ay21, cy21, rfl, oky, ⟨hry12, hcy12⟩, ⟨hry13, hcy13⟩, ⟨hry14, hcy14⟩, ⟨hry15, hcy15⟩, ⟨hry21, hcy21⟩⟩ := hy
  exact refsame_any x y Ax12 cx12 Ax13 cx13 Ax14 cx14 Ax15 cx15 Ax21 cx21 Ay12 cy12 Ay13 cy13 Ay14 cy14 Ay15 cy15 Ay21 cy21 w hrx12 hcx12 hrx13 hcx13 hrx14 hcx14 hrx15 hcx15 hrx21 hcx21 hry12 hcy12 hry13 hcy13 hry14 hcy14 hry15 hcy15 hry21 hcy21 okx.1 oky.1
theorem few_msg {cx : Array Value} {x : Msg} {w : World} (hx : IsMsg w cx x) : Calls Try.prog 11 #[.agg cx] w fun e w' => e = .returned (.bool (fewB x)) ∧ Below w.heap.size w w' := by
  obtain ⟨Ax12, cx12, Ax13, cx13, Ax14, cx14, Ax15, cx15, Ax21, cx21, rfl, okx, ⟨hrx12, hcx12⟩, ⟨hrx13, hcx13⟩, ⟨hrx14, hcx14⟩, ⟨hrx15, hcx15⟩, ⟨hrx21, hcx21⟩⟩ := hx
  obtain ⟨k, hk⟩ := (few_ev x).rounds
  exact busbarref07_Few.calls k x.code x.fail x.addr x.count x.value x.and_ x.or_ x.addr2 x.sub x.status x.events x.messages Ax12 cx12 x.words Ax13 cx13 x.bits Ax14 cx14 x.data Ax15 cx15 x.recs x.mei x.kind x.level x.more x.next Ax21 cx21 x.objects _ w hrx12 hcx12 hrx13 hcx13 hrx14 hcx14 hrx15 hcx15 hrx21 hcx21 hk
theorem heap_xa (w : World) (cx cy : Array Value) (t : TypeId) : ((w.alloc (.cells cx t)).alloc (.cells cy t)).heap[w.heap.size]? = some (.cells cx t (0, 0)) := heap_x w cx cy t
theorem heap_ya (w : World) (cx cy : Array Value) (t : TypeId) : ((w.alloc (.cells cx t)).alloc (.cells cy t)).heap[w.heap.size + 1]? = some (.cells cy t (0, 0)) := heap_y w cx cy t
/-- Two messages lie in blocks of their own; what was is as it was. -/
structure Two (w : World) (cx cy : Array Value) (t : TypeId) (W : World) : Prop where
  x : W.heap[w.heap.size]? = some (.cells cx t (0, 0))
  y : W.heap[w.heap.size + 1]? = some (.cells cy t (0, 0))
  b : Below w.heap.size w W
theorem Two.start (w : World) (cx cy : Array Value) (t : TypeId) : Two w cx cy t ((w.alloc (.cells cx t)).alloc (.cells cy t)) := ⟨heap_xa _ _ _ _, heap_ya _ _ _ _, ((Below.refl _ _).alloc (Nat.le_refl _) _).alloc (by simp) _⟩
theorem Two.on {w W W' : World} {cx cy : Array Value} {t : TypeId} (h : Two w cx cy t W) (hb : Below W.heap.size W W') : Two w cx cy t W' :=
  ⟨(hb.block _ (heap_lt' h.x)).trans h.x, (hb.block _ (heap_lt' h.y)).trans h.y, h.b.trans (hb.mono h.b.size)⟩
theorem Two.drew {w W : World} {cx cy : Array Value} {t : TypeId} (h : Two w cx cy t W) : Two w cx cy t W.drew := ⟨h.x, h.y, h.b.drew⟩
end Go.Proofs.Ytbilolgiihegiaa.Same
