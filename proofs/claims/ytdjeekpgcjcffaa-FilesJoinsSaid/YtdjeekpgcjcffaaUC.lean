/- What the laws of this chapter rest on, part 3: what the functions that they reach answer, each shown once. Conditions: what each theorem states. (Merged by a program of this session, wip/tools/merge.py, out of its own texts and of the words that the kit's print wrote for this seat, cut to those that are used.) -/
import Derived.Laws.EntriesVeiled
import Derived.RangeFuncNested
import Derived.RangeFuncBound
import Derived.RangeFuncCalls
import Derived.Maps.OwnIn
import Derived.WalkKit
import Derived.OwnWalkIn
import Derived.TacticsInMore
import Derived.LoopNIn
import Derived.LoopIn
import Derived.Shelf.Abstract
import Derived.Deep.CutRange
import Derived.Test.YtdjeekpgcjcffaaUB
set_option linter.unusedVariables false
set_option linter.unusedSimpArgs false
set_option maxHeartbeats 16000000
set_option maxRecDepth 100000
section
namespace Go.Proofs.Ytdjeekpgcjcffaa.Fil
open Go.RowKit Go.Proofs.Ytdjeekpgcjcffaa.P Go.Proofs.Ytdjeekpgcjcffaa.E Go.Proofs.Ytdjeekpgcjcffaa.Cur Go.Proofs.Ytdjeekpgcjcffaa.Cu Go.Proofs.Ytdjeekpgcjcffaa.Same Go.Proofs.YtdjeekpgcjcffaaW.PrintWords Go.Proofs.YtdjeekpgcjcffaaW.PrintLast Go.Proofs.YtdjeekpgcjcffaaW.PrintMore
def may0 (n : Int) : Bool := decide (7 ≤ n) && decide (n ≤ 245) && decide (n % 7 = 0)
def may1 (n : Int) : Bool := decide (4 ≤ n) && decide (n ≤ 245)
def may2 (n : Int) : Bool := decide (9 ≤ n) && decide (n ≤ 251)
theorem may0_any {n : Int} (h0 : 0 ≤ n) (h1 : n < 256) (w : World) : Calls Try.prog 36 #[.int .i64 n] w fun en w' => en = .returned (.bool (may0 n)) ∧ Below w.heap.size w w' := by
  go_enter Try.func36, Try.ntmps36
  go_wp2
  all_goals go_ret
  all_goals refine ⟨?_, Below.refl _ _⟩
  all_goals (simp only [may0]; congr 2)
  · rename_i a b
    rw [decide_eq_true a, decide_eq_true b]
    rfl
  · simp; omega
  · simp; omega
theorem may1_any {n : Int} (h0 : 0 ≤ n) (h1 : n < 256) (w : World) : Calls Try.prog 37 #[.int .i64 n] w fun en w' => en = .returned (.bool (may1 n)) ∧ Below w.heap.size w w' := by
  go_enter Try.func37, Try.ntmps37
  go_wp2
  all_goals go_ret
  all_goals refine ⟨?_, Below.refl _ _⟩
  all_goals (simp only [may1]; congr 2; simp <;> omega)
theorem may2_any {n : Int} (h0 : 0 ≤ n) (h1 : n < 256) (w : World) : Calls Try.prog 39 #[.int .i64 n] w fun en w' => en = .returned (.bool (may2 n)) ∧ Below w.heap.size w w' := by
  go_enter Try.func39, Try.ntmps39
  go_wp2
  all_goals go_ret
  all_goals refine ⟨?_, Below.refl _ _⟩
  all_goals (simp only [may2]; congr 2; simp <;> omega)
theorem rules_0 (w : World) : Calls Try.prog 19 #[.int .i64 0, .int .u8 20] w fun en w' => ∃ sb, en = .returned (.tuple #[.agg #[.func (.func 36) #[] #[], .func (.func 34) #[] #[.pointer (some ⟨sb, 0, none⟩)]], .bool true]) ∧ w.heap.size ≤ sb ∧ SumAt w' sb 0 ∧ Below w.heap.size w w' := by
  go_enter Try.func19, Try.ntmps19
  go_wp2
  have hb_ := blk_new w (.cells #[Value.func (.func 36) #[] #[], .func (.func 34) #[] #[.pointer (some ⟨w.heap.size + 1, 0, none⟩)]] 51 (0, 0))
  have h2_ := below_alloc (Below.refl (w.alloc (.cells #[Value.func (.func 36) #[] #[], .func (.func 34) #[] #[.pointer (some ⟨w.heap.size + 1, 0, none⟩)]] 51 (0, 0))).heap.size _) (.cells #[Value.int .i64 0] 3 (0, 0))
  have h3_ := below_alloc (Below.refl w.heap.size w) (.cells #[Value.func (.func 36) #[] #[], .func (.func 34) #[] #[.pointer (some ⟨w.heap.size + 1, 0, none⟩)]] 51 (0, 0))
  refine bodyPost_ret (results_ct rfl _ _ w.heap.size 51 _ (0, 0) _ rfl (blk_below hb_ h2_) Try.underlying51 rfl (by kernel_rfl)) rfl ⟨w.heap.size + 1, rfl, by omega, ?_, h3_.trans (h2_.mono (by simp))⟩
  have := blk_new (w.alloc (.cells #[Value.func (.func 36) #[] #[], .func (.func 34) #[] #[.pointer (some ⟨w.heap.size + 1, 0, none⟩)]] 51 (0, 0))) (.cells #[Value.int .i64 0] 3 (0, 0))
  rw [World.size_alloc] at this
  exact this
theorem rules_1 (w : World) : Calls Try.prog 19 #[.int .i64 1, .int .u8 20] w fun en w' => ∃ sb, en = .returned (.tuple #[.agg #[.func (.func 37) #[] #[], .func (.func 38) #[] #[]], .bool true]) ∧ w.heap.size ≤ sb ∧ SumAt w' sb 0 ∧ Below w.heap.size w w' := by
  go_enter Try.func19, Try.ntmps19
  go_wp2
  have hb_ := blk_new w (.cells #[Value.func (.func 37) #[] #[], .func (.func 38) #[] #[]] 51 (0, 0))
  have h2_ := below_alloc (Below.refl (w.alloc (.cells #[Value.func (.func 37) #[] #[], .func (.func 38) #[] #[]] 51 (0, 0))).heap.size _) (.cells #[Value.int .i64 0] 3 (0, 0))
  have h3_ := below_alloc (Below.refl w.heap.size w) (.cells #[Value.func (.func 37) #[] #[], .func (.func 38) #[] #[]] 51 (0, 0))
  refine bodyPost_ret (results_ct rfl _ _ w.heap.size 51 _ (0, 0) _ rfl (blk_below hb_ h2_) Try.underlying51 rfl (by kernel_rfl)) rfl ⟨w.heap.size + 1, rfl, by omega, ?_, h3_.trans (h2_.mono (by simp))⟩
  have := blk_new (w.alloc (.cells #[Value.func (.func 37) #[] #[], .func (.func 38) #[] #[]] 51 (0, 0))) (.cells #[Value.int .i64 0] 3 (0, 0))
  rw [World.size_alloc] at this
  exact this
theorem rules_20 (w : World) : Calls Try.prog 19 #[.int .i64 0, .int .u8 21] w fun en w' => ∃ sb, en = .returned (.tuple #[.agg #[.func (.func 39) #[] #[], .func (.func 40) #[] #[]], .bool true]) ∧ w.heap.size ≤ sb ∧ SumAt w' sb 0 ∧ Below w.heap.size w w' := by
  go_enter Try.func19, Try.ntmps19
  go_wp2
  have hb_ := blk_new w (.cells #[Value.func (.func 39) #[] #[], .func (.func 40) #[] #[]] 51 (0, 0))
  have h2_ := below_alloc (Below.refl (w.alloc (.cells #[Value.func (.func 39) #[] #[], .func (.func 40) #[] #[]] 51 (0, 0))).heap.size _) (.cells #[Value.int .i64 0] 3 (0, 0))
  have h3_ := below_alloc (Below.refl w.heap.size w) (.cells #[Value.func (.func 39) #[] #[], .func (.func 40) #[] #[]] 51 (0, 0))
  refine bodyPost_ret (results_ct rfl _ _ w.heap.size 51 _ (0, 0) _ rfl (blk_below hb_ h2_) Try.underlying51 rfl (by kernel_rfl)) rfl ⟨w.heap.size + 1, rfl, by omega, ?_, h3_.trans (h2_.mono (by simp))⟩
  have := blk_new (w.alloc (.cells #[Value.func (.func 39) #[] #[], .func (.func 40) #[] #[]] 51 (0, 0))) (.cells #[Value.int .i64 0] 3 (0, 0))
  rw [World.size_alloc] at this
  exact this
theorem rules_21 (w : World) : Calls Try.prog 19 #[.int .i64 1, .int .u8 21] w fun en w' => ∃ sb, en = .returned (.tuple #[.agg #[.func (.func 39) #[] #[], .func (.func 40) #[] #[]], .bool true]) ∧ w.heap.size ≤ sb ∧ SumAt w' sb 0 ∧ Below w.heap.size w w' := by
  go_enter Try.func19, Try.ntmps19
  go_wp2
  have hb_ := blk_new w (.cells #[Value.func (.func 39) #[] #[], .func (.func 40) #[] #[]] 51 (0, 0))
  have h2_ := below_alloc (Below.refl (w.alloc (.cells #[Value.func (.func 39) #[] #[], .func (.func 40) #[] #[]] 51 (0, 0))).heap.size _) (.cells #[Value.int .i64 0] 3 (0, 0))
  have h3_ := below_alloc (Below.refl w.heap.size w) (.cells #[Value.func (.func 39) #[] #[], .func (.func 40) #[] #[]] 51 (0, 0))
  refine bodyPost_ret (results_ct rfl _ _ w.heap.size 51 _ (0, 0) _ rfl (blk_below hb_ h2_) Try.underlying51 rfl (by kernel_rfl)) rfl ⟨w.heap.size + 1, rfl, by omega, ?_, h3_.trans (h2_.mono (by simp))⟩
  have := blk_new (w.alloc (.cells #[Value.func (.func 39) #[] #[], .func (.func 40) #[] #[]] 51 (0, 0))) (.cells #[Value.int .i64 0] 3 (0, 0))
  rw [World.size_alloc] at this
  exact this
theorem rules_no0 {code : Int} (h1 : code ≠ 20) (h2 : code ≠ 21) (w : World) : Calls Try.prog 19 #[.int .i64 0, .int .u8 code] w fun en w' => en = .returned (.tuple #[.agg #[Value.nilFunc, Value.nilFunc], .bool false]) ∧ Below w.heap.size w w' := by
  have e1 : (code == 20) = false := by simpa using h1
  have e2 : (code == 21) = false := by simpa using h2
  clear h1 h2
  go_enter Try.func19, Try.ntmps19
  go_wp2
  have hb_ := blk_new w (.cells #[Value.nilFunc, Value.nilFunc] 51 (0, 0))
  have h2_ := below_alloc (Below.refl (w.alloc (.cells #[Value.nilFunc, Value.nilFunc] 51 (0, 0))).heap.size _) (.cells #[Value.int .i64 0] 3 (0, 0))
  have h3_ := below_alloc (Below.refl w.heap.size w) (.cells #[Value.nilFunc, Value.nilFunc] 51 (0, 0))
  exact bodyPost_ret (results_ct rfl _ _ w.heap.size 51 _ (0, 0) _ rfl (blk_below hb_ h2_) Try.underlying51 rfl (by kernel_rfl)) rfl ⟨rfl, h3_.trans (h2_.mono (by simp))⟩
theorem rules_no1 {code : Int} (h1 : code ≠ 20) (h2 : code ≠ 21) (w : World) : Calls Try.prog 19 #[.int .i64 1, .int .u8 code] w fun en w' => en = .returned (.tuple #[.agg #[Value.nilFunc, Value.nilFunc], .bool false]) ∧ Below w.heap.size w w' := by
  have e1 : (code == 20) = false := by simpa using h1
  have e2 : (code == 21) = false := by simpa using h2
  clear h1 h2
  go_enter Try.func19, Try.ntmps19
  go_wp2
  have hb_ := blk_new w (.cells #[Value.nilFunc, Value.nilFunc] 51 (0, 0))
  have h2_ := below_alloc (Below.refl (w.alloc (.cells #[Value.nilFunc, Value.nilFunc] 51 (0, 0))).heap.size _) (.cells #[Value.int .i64 0] 3 (0, 0))
  have h3_ := below_alloc (Below.refl w.heap.size w) (.cells #[Value.nilFunc, Value.nilFunc] 51 (0, 0))
  exact bodyPost_ret (results_ct rfl _ _ w.heap.size 51 _ (0, 0) _ rfl (blk_below hb_ h2_) Try.underlying51 rfl (by kernel_rfl)) rfl ⟨rfl, h3_.trans (h2_.mono (by simp))⟩
end Go.Proofs.Ytdjeekpgcjcffaa.Fil
end
section
namespace Go.Proofs.Ytdjeekpgcjcffaa.Fil
open Go.RowKit Go.Proofs.Ytdjeekpgcjcffaa.P Go.Proofs.Ytdjeekpgcjcffaa.E Go.Proofs.Ytdjeekpgcjcffaa.Cur Go.Proofs.Ytdjeekpgcjcffaa.Cu Go.Proofs.Ytdjeekpgcjcffaa.Same Go.Proofs.YtdjeekpgcjcffaaW.PrintWords Go.Proofs.YtdjeekpgcjcffaaW.PrintLast Go.Proofs.YtdjeekpgcjcffaaW.PrintMore
attribute [local go_sem] Oper.semAt_some
abbrev Rdp := Int → Cu → Cu × S43 × Int
def partsG (rd : Rdp) : Nat → Int → Cu → Cu × List S43
  | 0, _, c => (c, [])
  | k + 1, s, c => if c.xs = [] ∨ c.e ≠ 0 then (c, []) else ((partsG rd k (rd s c).2.2 (rd s c).1).1, (rd s c).2.1 :: (partsG rd k (rd s c).2.2 (rd s c).1).2)
def codeC (code : Int) : Array Value := #[.int .u8 code, .int .u8 0, .int .u16 0, .int .u16 0, .int .u16 0, .int .u16 0, .int .u16 0, .int .u16 0, .int .u16 0, .int .u16 0, .int .u16 0, .int .u16 0, .slice none 0 0, .slice none 0 0, .slice none 0 0, .slice none 0 0, .int .u8 0, .int .u8 0, .int .u8 0, .int .u8 0, .int .u8 0, .slice none 0 0]
theorem codeC_is {code : Int} (h : 0 ≤ code ∧ code < 256) (W : World) : IsMsg W (codeC code) { zeroM with code := code } := set_code (zero_is W) h
def rawV (r : RawR) : Array Value := recC r.f0 r.f1 r.f2 (.slice r.A r.n r.c)
structure Lay (B gb gm sb l lo hi : Nat) : Prop where
  lt : gb < B ∧ gm < B ∧ sb < B ∧ l < B
  ne : gb ≠ gm ∧ gb ≠ sb ∧ gb ≠ l ∧ gm ≠ sb ∧ gm ≠ l ∧ sb ≠ l
  out : (gm < lo ∨ hi ≤ gm) ∧ (sb < lo ∨ hi ≤ sb) ∧ (l < lo ∨ hi ≤ l)
  hi : hi ≤ gb
structure LS (W0 : World) (gb gm sb l lo hi : Nat) (code : Int) (rec : Loop) (W : World) (c : Cu) (s : Int) (os : List S43) (raws : List RawR) (v : Value) : Prop where
  up : UpdS (fun k => k = gb ∨ k = gm ∨ k = sb ∨ k = l) W0 W
  cur : PAt lo hi W gb c
  sum : SumAt W sb s
  lp : W.heap[l]? = some (.loop rec)
  msg : W.heap[gm]? = some (.cells ((codeC code).setIfInBounds 15 v) 30 (0, 0))
  row : Kd.R kRawR 43 W W0.heap.size (fun k => W0.heap.size ≤ k) v raws
  zip : Zip (fun r o => goodR o ∧ ∀ W', Kept W W' (fun k => k < W0.heap.size ∨ v.ownBlock = some k) → FitsR W' r o) raws os
  bd : os.length + c.xs.length ≤ 1000000
section
variable {W0 W W' : World} {gb gm sb l lo hi : Nat} {code s s' : Int} {rec rec' : Loop} {c c' : Cu} {os : List S43} {raws : List RawR} {v : Value}
theorem LS.own (h : LS W0 gb gm sb l lo hi code rec W c s os raws v) (k : Nat) (hk : v.ownBlock = some k) : W0.heap.size ≤ k ∧ k < W.heap.size := by
  have := (Kd.R_bound h.row).1 k hk
  exact ⟨this.1, this.2.2.1⟩
theorem LS.move (h : LS W0 gb gm sb l lo hi code rec W c s os raws v) (L : Lay W0.heap.size gb gm sb l lo hi) (u : UpdS (fun k => k = gb ∨ k = sb) W W') (p : PAt lo hi W' gb c') (q : SumAt W' sb s') (hb : os.length + c'.xs.length ≤ 1000000) : LS W0 gb gm sb l lo hi code rec W' c' s' os raws v := by
  have hlt := L.lt
  have hne := L.ne
  have kk : Kept W W' (fun k => k < W0.heap.size ∨ v.ownBlock = some k) := u.kept.mono fun j hj => by rcases hj with rfl | rfl <;> exact .inl (by omega)
  refine ⟨h.up.trans ⟨u.os, u.tape, u.output, u.kept.mono fun j hj => by rcases hj with rfl | rfl <;> simp⟩, p, q, blk_kept h.lp u.kept (by omega), blk_kept h.msg u.kept (by omega), ?_, h.zip.imp fun _ _ z => ⟨z.1, fun W2 hk => z.2 W2 (kk.then_ hk fun j hj => .inl hj)⟩, hb⟩
  exact Kd.R_mono (Kd.R_move (Kd.R_bound h.row) fun j hj => u.kept.2 j hj.2.2.1 fun e => by have := hj.1; omega) fun j hj => hj.1
theorem LS.below (h : LS W0 gb gm sb l lo hi code rec W c s os raws v) (L : Lay W0.heap.size gb gm sb l lo hi) (hb : Below W.heap.size W W') : LS W0 gb gm sb l lo hi code rec W' c s os raws v :=
  h.move L ⟨hb.os, hb.tape, hb.output, Kept.of_below hb _⟩ (h.cur.below hb) (blk_below h.sum hb) h.bd
theorem LS.turn (h : LS W0 gb gm sb l lo hi code rec W c s os raws v) (L : Lay W0.heap.size gb gm sb l lo hi) (rec' : Loop) : LS W0 gb gm sb l lo hi code rec' (W.putObj l (.loop rec')) c s os raws v := by
  have hlt := L.lt
  have hne := L.ne
  have ho := L.out
  have k0 : Kept W (W.putObj l (.loop rec')) (fun k => k = l) := ⟨by simp, fun i _ hn => World.putObj_heap_other hn⟩
  have kk : Kept W (W.putObj l (.loop rec')) (fun k => k < W0.heap.size ∨ v.ownBlock = some k) := k0.mono fun j hj => .inl (by omega)
  refine ⟨h.up.trans ⟨rfl, rfl, rfl, k0.mono fun j hj => by subst hj; simp⟩, h.cur.on k0 (fun k e => by omega) (by omega), blk_kept h.sum k0 (by omega), World.putObj_heap_same (blk_lt h.lp), blk_kept h.msg k0 (by omega), ?_, h.zip.imp fun _ _ z => ⟨z.1, fun W2 hk => z.2 W2 (kk.then_ hk fun j hj => .inl hj)⟩, h.bd⟩
  exact Kd.R_mono (Kd.R_move (Kd.R_bound h.row) fun j hj => k0.2 j hj.2.2.1 fun e => by have := hj.1; omega) fun j hj => hj.1
theorem LS.at_list (h : LS W0 gb gm sb l lo hi code rec W c s os raws v) : W.cell? ⟨gm, 15, none⟩ = some v ∧ W.frozen? ⟨gm, 15, none⟩ = false := ⟨blk_cell h.msg 15, blk_frozen h.msg 15⟩
theorem LS.at_list' (h : LS W0 gb gm sb l lo hi code rec W c s os raws v) (L : Lay W0.heap.size gb gm sb l lo hi) {w1 : World} (G : W.grownBy w1 v.ownBlock) : w1.cell? ⟨gm, 15, none⟩ = some v ∧ w1.frozen? ⟨gm, 15, none⟩ = false := by
  have hlt := L.lt
  have a3 := blk_kept h.msg ((Kept.refl W (fun k => v.ownBlock = some k)).of_grown G (fun k hk => .inl hk)) (fun e => by have := (h.own _ e).1; omega)
  exact ⟨blk_cell a3 15, blk_frozen a3 15⟩
theorem LS.few (h : LS W0 gb gm sb l lo hi code rec W c s os raws v) : raws.length ≤ 1000000 := by
  have := h.bd
  have := h.zip.1
  omega
theorem LS.push (h : LS W0 gb gm sb l lo hi code rec W c s os raws v) (L : Lay W0.heap.size gb gm sb l lo hi) {r : RawR} {o : S43} (hg : goodR o) (hz : ∀ W', Kept W W' (fun k => k < W0.heap.size ∨ v.ownBlock = some k) → FitsR W' r o) (hb : os.length + 1 + c.xs.length ≤ 1000000) {v1 : Value} {w1 : World} (R1 : Kd.R kRawR 43 w1 W0.heap.size (fun k => W0.heap.size ≤ k) v1 (raws ++ [r])) (G : W.grownBy w1 v.ownBlock) (hv : v1.ownBlock = v.ownBlock ∨ ∃ b, v1.ownBlock = some b ∧ W.heap.size ≤ b) :
    LS W0 gb gm sb l lo hi code rec (w1.setCell ⟨gm, 15, none⟩ v1) c s (os ++ [o]) (raws ++ [r]) v1 := by
  have hlt := L.lt
  have hne := L.ne
  have ho := L.out
  have hh := L.hi
  have own := fun k e => (h.own k e).1
  have hsz := h.up.kept.1
  have k1 : Kept W w1 (fun k => v.ownBlock = some k) := (Kept.refl W _).of_grown G (fun k hk => .inl hk)
  have u2 := up_set w1 gm 15 v1
  have k2 := u2.kept
  have nb : ∀ b, b < W0.heap.size → v.ownBlock ≠ some b := fun b hb e => by have := own b e; omega
  have kk : Kept W (w1.setCell ⟨gm, 15, none⟩ v1) (fun k => k < W0.heap.size ∨ v.ownBlock = some k) := (k1.mono fun j hj => .inr hj).then_ k2 (fun j hj => .inl (.inl (by omega)))
  have turn : ∀ W', Kept (w1.setCell ⟨gm, 15, none⟩ v1) W' (fun k => k < W0.heap.size ∨ v1.ownBlock = some k) → Kept W W' (fun k => k < W0.heap.size ∨ v.ownBlock = some k) := fun W' hk => kk.then_ hk (fun j hj => by
    rcases hj with hj | hj
    · exact .inl (.inl hj)
    · rcases hv with e | ⟨b, e, hb⟩
      · exact .inl (.inr (e ▸ hj))
      · rw [e] at hj
        have := Option.some.inj hj
        exact .inr (by omega))
  have e1 : (codeC code).size = 22 := rfl
  refine ⟨?_, ?_, blk_kept (blk_kept h.sum k1 (nb _ hlt.2.2.1)) k2 (by omega), blk_kept (blk_kept h.lp k1 (nb _ hlt.2.2.2)) k2 (by omega), ?_, ?_, ?_, by rw [List.length_append]; simpa using hb⟩
  · refine ⟨h.up.os ▸ (u2.os.trans G.os), h.up.tape ▸ (u2.tape.trans G.tape), h.up.output ▸ (u2.output.trans G.output), (h.up.kept.then_ k1 fun j hj => .inr (own j hj)).then_ k2 fun j hj => .inl (by subst hj; simp)⟩
  · exact (h.cur.on k1 (fun k e => .inr (by have := own k e; omega)) (nb _ hlt.1)).on k2 (fun k e => by omega) (by omega)
  · have := blk_put (blk_kept h.msg k1 (nb _ hlt.2.1)) 15 v1 rfl
    rw [this]
    simp
  · exact Kd.R_mono (Kd.R_move (Kd.R_bound R1) fun j hj => k2.2 j hj.2.2.1 fun e => by have := hj.1; omega) fun j hj => hj.1
  · exact (h.zip.imp fun _ _ z => ⟨z.1, fun W' hk => z.2 W' (turn W' hk)⟩).snoc ⟨hg, fun W' hk => hz W' (turn W' hk)⟩
theorem LS.close (h : LS W0 gb gm sb l lo hi code rec W c s os raws v) (L : Lay W0.heap.size gb gm sb l lo hi) (hc : 0 ≤ code ∧ code < 256) : ∃ cx, W.heap[gm]? = some (.cells cx 30 (0, 0)) ∧ ∀ W', Kept W W' (fun k => k < W0.heap.size) → IsMsg W' cx { zeroM with code := code, recs := os } := by
  obtain ⟨A, n, rfl, hn, _⟩ := Kd.R_reads h.row
  have hl := h.zip.1
  refine ⟨_, h.msg, fun W' hk => ?_⟩
  have hC := Kd.C_kept_own h.row (S := (fun k => k < W0.heap.size)) (fun k hk => by omega) W' hk
  have hz : Zip (FitsR W') raws os := h.zip.imp fun _ _ z => z.2 W' (hk.mono fun j hj => .inl hj)
  rw [hl] at hC
  have := set_recs (codeC_is hc W') (A := A) (n := n) (l := os) (by rw [← hl]; exact hn) (fun o ho => by obtain ⟨r, hr, _⟩ := h.zip.mem o ho; exact hr) (zipR_C hC hz)
  rw [hl]
  exact this
end
section
variable {F : Fence} {nF : Nat} {P : Program} {ops : Array Oper} {rest : List Oper} {o : Oper} {a : Act} {Q : Exit → Act → World → Prop} {α : Type}
theorem gateIn_dst {N : Tmp} {w : World} (_h : o.dst = some N) (h : wpListIn F nF P ops Q (o :: rest) a w) : wpListIn F nF P ops Q (o :: rest) a w := h
theorem loadIn_row {w : World} (hgd : o.guard = none) (ty : TypeId) (x : Operand) (ho : o.op = .load ty x) (g : Nat) (hx : a.eval x = .pointer (some ⟨g, 0, none⟩)) (t : TypeId) (cs : Array Value) (fr : Nat × Nat) (d : TypeDesc) (hg : w.heap[g]? = some (.cells cs t fr))
    (hu : P.underlying ty = some d) (hd : (match d with | .struct _ | .array _ _ => true | _ => false) = true) (hi : (P.info? ty).map (·.size) = some cs.size)
    (h : wpListIn F nF P ops Q rest (a.put o.dst (.agg cs)) w) : wpListIn F nF P ops Q (o :: rest) a w := by
  refine wpListIn_plain hgd fun K hK => ?_
  unfold Oper.wpIn
  refine ⟨by simp [Oper.about, ho], ?_⟩
  rw [Oper.semAt_plain F _ _ (by rw [ho]; intro c hc'; cases hc')]
  have hr : (Instr.loadAt ty (.pointer (some ⟨g, 0, none⟩))).run P w = .ok (.agg cs) w := by
    have := run_loadVar_row (P := P) w g t ty cs fr d hg hu hd hi
    simp only [Instr.loadAt, Instr.sureAddr, Sem.run_bind, Sem.run_pure, Result.andThen_ok, this]
  simp [execOp, ho, hx, hr, Result.andThen]
  exact hK _ _ h
theorem R_append_in (d : Kd α) {w0 W : World} (base : Nat) (hgd : o.guard = none) (s x : Operand) (t e : TypeId) (z : Value) (bytes : Nat)
    (ho : o.op = .call { callee := .builtin .append, args := #[s, x], argTypes := #[t, t] })
    (ht : P.underlying t = some (.slice e)) (hinfo : (P.info? e).map (fun i => (i.zero, i.size, i.bytes)) = some (some z, d.sz, bytes)) (hz : z.cells.size = d.sz) (hs0 : 0 < d.sz) (hb0 : 0 < bytes)
    (v : Value) (xs : List α) (p : α) (cs : List Value) (ok okp : Nat → Prop) (hs : a.eval s = v) (hx : a.eval x = .slice (some ⟨W.heap.size, 0, none⟩) 1 1) (hp : d.M W base okp p cs) (hokp : ∀ k, okp k → ok k ∧ some k ≠ v.ownBlock) (hfresh : ∀ k, W.heap.size ≤ k → ok k)
    (HO : d.R e W base ok v xs) (HB : Below base w0 W) (hbase : base ≤ W.heap.size) (hl : (xs.length + 1) * bytes ≤ 140737488355328)
    (h : ∀ v1 w1, d.R e w1 base ok v1 (xs ++ [p]) → Below base w0 w1 → W.grownBy w1 v.ownBlock → (v1.ownBlock = v.ownBlock ∨ ∃ b, v1.ownBlock = some b ∧ W.heap.size ≤ b) → wpListIn F nF P ops Q rest (a.put o.dst v1) w1) :
    wpListIn F nF P ops Q (o :: rest) a (W.alloc (.cells cs.toArray e)) := by
  obtain ⟨h0, inner, hown, hr⟩ := HO
  obtain ⟨i0, hi, hzz⟩ := Option.map_eq_some_iff.1 hinfo
  simp only [Prod.mk.injEq] at hzz
  obtain ⟨hz0, hz1, hz2⟩ := hzz
  have hlen : xs.length + 1 ≤ 140737488355328 := Nat.le_trans (Nat.le_mul_of_pos_right _ hb0) hl
  refine wpListIn_append_own_at (W.alloc (.cells cs.toArray e)) hgd s x t ho base e i0 z d.sz bytes ht hi hz0 hz1 hz2 hz hs0 v xs.length inner hs (hown.alloc _) ⟨W.heap.size, 0, none⟩ 1 1 cs hx (by rw [d.K_len (d.K_of_M hp)]; simp)
    (by simpa using World.news_of_block (cs := cs.toArray) (t := e) (fr := (0, 0)) (heap_alloc_new W (.cells cs.toArray e))) (d.K_one (d.K_of_M hp)) (by simp only [maxLen]; omega) hl (by simp; omega) ?_
  intro v1 w1 hown1 hg _ hat
  have hat' : v1.ownBlock = v.ownBlock ∨ ∃ b, v1.ownBlock = some b ∧ W.heap.size ≤ b := by
    rcases hat with hat | hat
    · exact .inl hat
    · exact .inr ⟨_, hat, by simp⟩
  have hg1 := World.grownBy.trans (World.grownBy_alloc W _ _) hg
  exact h v1 w1 (Kd.R_appended h0 hr hp hokp hfresh hown1 hg1 hat') ((HB.alloc hbase _).grown hg (by simp; omega) (own_base hown)) hg1 hat'
end
def recOf (fn : FuncId) (tmps : Array Value) (ps : Array Tmp) (assign body : Code) (D : Nat) (st : LoopState) : Loop := { state := st, pending := none, fn, tmps, params := ps, assign, body, defers := D }
def Iter (rd : Rdp) (lb : Array Value) (W0 : World) (gb gm sb l lo hi : Nat) (code : Int) (rec : Loop) (N : Nat) : Prop :=
  ∀ (W : World) (c0 : Cu), LS W0 gb gm sb l lo hi code rec W c0 0 [] [] (.slice none 0 0) → c0.xs.length ≤ N →
    (∀ (W : World) (c : Cu) (s : Int) (os : List S43) (raws : List RawR) (v : Value) (r : RawR) (x : S43), LS W0 gb gm sb l lo hi code rec W c s os raws v → goodR x → (∀ W', Kept W W' (fun k => k < W0.heap.size ∨ v.ownBlock = some k) → FitsR W' r x) → os.length + 1 + c.xs.length ≤ 1000000 →
      YieldAt Fence.wide 5 Try.prog l #[.agg (rawV r)] W fun e W' => e = .returned (.bool true) ∧ ∃ v', LS W0 gb gm sb l lo hi code rec W' c s (os ++ [x]) (raws ++ [r]) v') →
    Calls Try.prog 42 (#[.func (.yield l) #[] #[]] ++ lb) W fun e W' => (∃ v, e = .returned v) ∧ ∃ c s os raws v, LS W0 gb gm sb l lo hi code rec W' c s os raws v ∧ c = (partsG rd N 0 c0).1 ∧ (c.e = 0 → os = (partsG rd N 0 c0).2)
theorem range_law {rd : Rdp} {g : Operand} {p q : Tmp} {assign body : Code} {Q : Exit → Act → World → Prop} {a : Act} {w : World} {gb gm sb lo hi N : Nat} {code : Int} {c0 : Cu} {lb : Array Value}
    (hg : a.eval g = .func (.func 42) #[] lb) (L : Lay (w.heap.size + 2) gb gm sb (w.heap.size + 1) lo hi)
    (hl : gb < w.heap.size ∧ gm < w.heap.size ∧ sb < w.heap.size)
    (hc : PAt lo hi w gb c0) (hs : SumAt w sb 0) (hm : w.heap[gm]? = some (.cells (codeC code) 30 (0, 0))) (hN : c0.xs.length ≤ N)
    (hit : ∀ (W0 : World) (rec : Loop), Below w.heap.size w W0 → W0.heap.size = w.heap.size + 2 → Iter rd lb W0 gb gm sb (w.heap.size + 1) lo hi code rec N)
    (hassign : ∀ (l : Nat) (r : RawR) (W : World) (K : Act → World → Prop), (∀ bx W1, bx = W.heap.size → W1.heap[bx]? = some (.cells #[.int .u16 r.f0, .int .u16 r.f1, .int .u16 r.f2, .slice r.A r.n r.c] 43 (0, 0)) → Below W.heap.size W W1 → K { tmps := (a.tmps.setIfInBounds p (.agg #[.int .u16 r.f0, .int .u16 r.f1, .int .u16 r.f2, .slice r.A r.n r.c])).setIfInBounds q (.pointer (some ⟨bx, 0, none⟩)), defers := [] } W1) →
      assign.wpIn (Fence.wide.inRound l) 5 Try.prog (Exit.then K (fun _ _ _ => False)) { tmps := a.tmps.setIfInBounds p (.agg #[.int .u16 r.f0, .int .u16 r.f1, .int .u16 r.f2, .slice r.A r.n r.c]), defers := [] } W)
    (hbody : ∀ (l bx : Nat) (W0 : World) (rec : Loop) (W : World) (c : Cu) (s : Int) (os : List S43) (raws : List RawR) (v : Value) (r : RawR) (x : S43), Lay W0.heap.size gb gm sb l lo hi → LS W0 gb gm sb l lo hi code rec W c s os raws v → goodR x → (∀ W', Kept W W' (fun k => k < W0.heap.size ∨ v.ownBlock = some k) → FitsR W' r x) → os.length + 1 + c.xs.length ≤ 1000000 →
      W.heap[bx]? = some (.cells (rawV r) 43 (0, 0)) →
      body.wpIn (Fence.wide.inRound l) 5 Try.prog (fun e _ W' => e = .normal ∧ ∃ v', LS W0 gb gm sb l lo hi code rec W' c s (os ++ [x]) (raws ++ [r]) v') { tmps := (a.tmps.setIfInBounds p (.agg #[.int .u16 r.f0, .int .u16 r.f1, .int .u16 r.f2, .slice r.A r.n r.c])).setIfInBounds q (.pointer (some ⟨bx, 0, none⟩)), defers := [] } W)
    (hdone : ∀ (W0 W3 : World) (l : Nat) (rec : Loop) (c : Cu) (s : Int) (os : List S43) (raws : List RawR) (v : Value), Below w.heap.size w W0 → W0.heap.size = w.heap.size + 2 → l = w.heap.size + 1 → LS W0 gb gm sb l lo hi code rec W3 c s os raws v → W3.heap[w.heap.size]? = some (.deferred (some [])) → c = (partsG rd N 0 c0).1 → (c.e = 0 → os = (partsG rd N 0 c0).2) →
      Q .normal { a with defers := { target := .collected w.heap.size, args := #[] } :: a.defers } W3) :
    (Code.rangeFunc g #[p] assign body).wp Try.prog Q a w := by
  refine (wpIn_wide (n := 7)).1 (wpIn_rangeFunc ?_)
  intro fn hfn
  show ∃ (l : Nat) (mark : List Deferred) (w₁ : World) (d : Deferred) (w₁' : World) (f : FuncId) (args : Array Value) (w₂ : World), (Instr.enterLoop fn a.tmps #[p] assign body none).run Try.prog w = .ok (l, mark) w₁ ∧ _
  obtain ⟨rec, hrec⟩ : ∃ rec : LoopState → Loop, rec = recOf fn a.tmps #[p] assign body w.heap.size := ⟨_, rfl⟩
  obtain ⟨W1, hW1⟩ : ∃ W1, (w.alloc (.deferred (some []))).alloc (.loop (rec .ready)) = W1 := ⟨_, rfl⟩
  have hb1 : Below w.heap.size w W1 := by
    rw [← hW1]; exact ((Below.refl _ w).alloc (Nat.le_refl _) _).alloc (by simp) _
  have hz1 : W1.heap.size = w.heap.size + 2 := by rw [← hW1]; simp
  have hL1 : W1.heap[w.heap.size + 1]? = some (.loop (rec .ready)) := by
    rw [← hW1]; have := World.alloc_heap_new (w.alloc (.deferred (some []))) (.loop (rec .ready)); rwa [World.size_alloc] at this
  have hK1 : W1.heap[w.heap.size]? = some (.deferred (some [])) := by
    rw [← hW1]; exact (Below.heap_alloc _ _ _ (by simp)).trans (World.alloc_heap_new w _)
  have L1 : Lay W1.heap.size gb gm sb (w.heap.size + 1) lo hi := hz1 ▸ L
  have e0 : (codeC code).setIfInBounds 15 (.slice none 0 0) = codeC code := rfl
  have hLS : LS W1 gb gm sb (w.heap.size + 1) lo hi code (rec .ready) W1 c0 0 [] [] (.slice none 0 0) := by
    refine ⟨⟨rfl, rfl, rfl, Kept.refl _ _⟩, hc.below hb1, blk_below hs hb1, hL1, ?_, Kd.R_nil _ _ _ _ _, Zip.nil _, ?_⟩
    · rw [e0]; exact blk_below hm hb1
    · have := hc.2.2.1
      simpa using this
  refine ⟨w.heap.size + 1, [{ target := .collected w.heap.size, args := #[] }], W1, { target := .fn (.func 42) lb, args := #[.func (.yield (w.heap.size + 1)) #[] #[]] }, W1, 42,
    #[.func (.yield (w.heap.size + 1)) #[] #[]] ++ lb, W1, ?_, ?_, ?_, ?_, fun _ => by omega, ?_⟩
  · rw [← hW1, hrec]; exact run_enterLoop_outer _ _ _ _ _
  · simp only [resolve, hg]
    simp [go_sem]
  · intro f' hf'; trivial
  · have eg : ∀ (args : Array Value) (w : World), (callFunc 42 args).run Try.prog w = .ok (.enter 42 args) w := enters_of Try.func42 (by kernel_rfl) rfl
    simp [invoke, go_sem, eg]
  · refine (callsIn_wide.2 (hit W1 (rec .ready) hb1 hz1 W1 c0 hLS hN ?_)).mono ?_
    · -- one round
      intro W c s os raws v r x hi hgx hx hbd
      have hy := run_yield (P := Try.prog) (args := #[.agg (rawV r)]) hi.lp (by rw [hrec]; rfl)
      rw [hrec] at hy
      refine ⟨fn, _, assign, body, hy, roundIn_of_wpIn hfn ?_⟩
      have ez : ((#[p].zip #[Value.agg (rawV r)]).foldl (fun t (q : Tmp × Value) => t.setIfInBounds q.1 q.2) a.tmps) = a.tmps.setIfInBounds p (.agg (rawV r)) := by simp
      show assign.wpIn _ 5 _ _ { tmps := ((#[p].zip #[Value.agg (rawV r)]).foldl (fun t (q : Tmp × Value) => t.setIfInBounds q.1 q.2) a.tmps), defers := [] } W
      rw [ez]
      refine hassign _ r W _ ?_
      intro bx W2 hbx h2 hb2
      have hi2 := hi.below L1 hb2
      refine ⟨_, run_beginRound hi2.lp (by rw [hrec]; rfl), ?_⟩
      have hi3 := hi2.turn L1 { rec .ready with state := .busy }
      have k0 : Kept W2 (W2.putObj (w.heap.size + 1) (.loop { rec .ready with state := .busy })) (fun k => k < W1.heap.size ∨ v.ownBlock = some k) := ⟨by simp, fun i _ hn => World.putObj_heap_other (fun e => hn (.inl (by rw [e]; omega)))⟩
      have h3 := blk_kept h2 k0 (fun e => by
        have := hi.up.kept.1
        rcases e with e | e
        · omega
        · have := (hi.own _ e).2; omega)
      refine wpIn_mono (hbody _ bx W1 _ _ c s os raws v r x L1 hi3 hgx (fun W' hk => hx W' ?_) hbd h3) ?_
      · exact ((Kept.of_below hb2 _).then_ k0 fun j hj => .inl hj).then_ hk fun j hj => .inl hj
      · rintro e a3 W3 ⟨rfl, v', hi4⟩
        refine ⟨_, _, run_endRound none hi4.lp, rfl, v', ?_⟩
        have := hi4.turn L1 (rec .ready)
        rw [hrec] at this ⊢
        exact this
    · rintro e W2 ⟨⟨v0, rfl⟩, c, s, os, raws, v, h4, hc4, ho4⟩
      refine ⟨none, _, by have := run_endLoop (P := Try.prog) h4.lp (by rw [hrec]; simp [recOf]); rw [hrec] at this; exact this, ?_⟩
      have h5 := h4.turn L1 { rec .ready with state := .exhausted }
      rw [hrec] at h5
      refine hdone W1 _ _ _ c s os raws v hb1 hz1 rfl h5 ?_ hc4 ho4
      rw [World.putObj_heap_other (by omega)]
      exact blk_kept hK1 h4.up.kept (by omega)
end Go.Proofs.Ytdjeekpgcjcffaa.Fil
end
section
namespace Go.Proofs.Ytdjeekpgcjcffaa.Cu
open Go.RowKit Go.Proofs.Ytdjeekpgcjcffaa.E Go.Proofs.Ytdjeekpgcjcffaa.Cur Go.Proofs.YtdjeekpgcjcffaaW.PrintWords Go.Proofs.YtdjeekpgcjcffaaW.PrintLast Go.Proofs.YtdjeekpgcjcffaaW.PrintMore
def cu (l : List Int) : Cu := ⟨l, false, 0⟩
theorem need_true (c : Cu) (f : Int) : c.need true f = c := by unfold Cu.need; simp
theorem need_dead {c : Cu} (h : c.e ≠ 0) (ok : Bool) (f : Int) : c.need ok f = c := by
  unfold Cu.need
  rw [if_neg (fun hh => h hh.1)]
theorem bytesS_dead {c : Cu} (h : c.e ≠ 0) (n : Int) : (c.bytesS n).e = c.e := by
  unfold Cu.bytesS
  split
  · rfl
  · simp only [Cu.fail, fstE]
    rw [if_neg h]
theorem need_ok {c : Cu} {ok : Bool} {f : Int} (hf : f ≠ 0) (h : (c.need ok f).e = 0) : c.e = 0 ∧ ok = true ∧ c.need ok f = c := by
  cases ok with
  | true => rw [need_true] at h ⊢; exact ⟨h, rfl, rfl⟩
  | false =>
    by_cases he : c.e = 0
    · exfalso
      unfold Cu.need at h
      rw [if_pos ⟨he, rfl⟩] at h
      exact hf h
    · rw [need_dead he] at h
      exact absurd h he
theorem need_ok' {xs : List Int} {ok : Bool} {f : Int} (h : ((cu xs).need ok f).e = 0) : (cu xs).need ok f = cu xs := by
  cases ok with
  | true => exact need_true _ _
  | false =>
    unfold Cu.need cu at h ⊢
    simp only [and_self, if_true] at h ⊢
    rw [h]
theorem bytes_ok {c : Cu} {n : Int} (h : (c.bytesS n).e = 0) : c.e = 0 ∧ c.s = false ∧ 0 ≤ n ∧ n ≤ (c.xs.length : Int) ∧ c.bytesS n = cu (c.xs.drop n.toNat) ∧ c.bytesV n = c.xs.take n.toNat := by
  have he : c.e = 0 := by
    by_cases he : c.e = 0
    · exact he
    · rw [bytesS_dead he] at h; exact h
  by_cases hk : c.okB n = true
  · obtain ⟨h1, h2, h3⟩ := (Cu.okB_iff c n).1 hk
    refine ⟨he, h1, h2, h3, ?_, ?_⟩
    · unfold Cu.bytesS cu; rw [if_pos hk, h1, he]
    · unfold Cu.bytesV; rw [if_pos hk]
  · exfalso
    unfold Cu.bytesS at h
    rw [if_neg hk] at h
    simp only [Cu.fail, fstE] at h
    rw [if_pos he] at h
    exact absurd h (by decide)
theorem byte_ok {c : Cu} (h : c.byteS.e = 0) : c.e = 0 ∧ c.s = false ∧ ∃ t, c.xs = c.byteV :: t ∧ c.byteS = cu t := by
  obtain ⟨h1, h2, h3, h4, h5, h6⟩ := bytes_ok (n := 1) h
  cases hx : c.xs with
  | nil => rw [hx] at h4; simp at h4
  | cons x t =>
    refine ⟨h1, h2, t, ?_, ?_⟩
    · unfold Cu.byteV; rw [h6, hx]; rfl
    · show c.bytesS 1 = _
      rw [h5, hx]; rfl
theorem fin_ok {c : Cu} (h : c.fin.e = 0) : c.e = 0 ∧ c.xs = [] := by
  obtain ⟨h1, h2, h3⟩ := need_ok (by decide) h
  exact ⟨h1, by simpa using h2⟩
theorem okB_cu (l : List Int) (n : Nat) (h : n ≤ l.length) : (cu l).okB (n : Int) = true := by
  rw [Cu.okB_iff]
  exact ⟨rfl, by omega, by show (n : Int) ≤ (l.length : Int); omega⟩
theorem bytesV_app (u t : List Int) {n : Int} (hn : n = (u.length : Int)) : (cu (u ++ t)).bytesV n = u := by
  subst hn
  unfold Cu.bytesV
  rw [if_pos (okB_cu _ _ (by simp))]
  show (u ++ t).take (u.length : Int).toNat = u
  simp
theorem bytesS_app (u t : List Int) {n : Int} (hn : n = (u.length : Int)) : (cu (u ++ t)).bytesS n = cu t := by
  subst hn
  unfold Cu.bytesS
  rw [if_pos (okB_cu _ _ (by simp))]
  show (⟨(u ++ t).drop (u.length : Int).toNat, _, _⟩ : Cu) = _
  simp [cu]
theorem byteV_cons (x : Int) (t : List Int) : (cu (x :: t)).byteV = x := by
  show ((cu ([x] ++ t)).bytesV 1).headD 0 = x
  have h := bytesV_app [x] t (n := 1) rfl
  rw [h]
  rfl
theorem byteS_cons (x : Int) (t : List Int) : (cu (x :: t)).byteS = cu t := bytesS_app [x] t rfl
theorem fin_cu_nil : (cu []).fin = cu [] := by
  show (cu []).need _ 3 = _
  exact need_true _ _
section
variable {α β : Type}
structure Cl (r : (Cu → Cu × α)) : Prop where
  dead : ∀ c : Cu, c.e ≠ 0 → (r c).1.e = c.e
  ok : ∀ xs : List Int, (r (cu xs)).1.e = 0 → ∃ u t, xs = u ++ t ∧ (∀ t', r (cu (u ++ t')) = (cu t', (r (cu xs)).2)) ∧ ∀ k, k < u.length → (r (cu (u.take k))).1.e = 2
end
section
variable {α β : Type} {f : α → (Cu → Cu × β)}
end
theorem wordsS_dead {c : Cu} (h : c.e ≠ 0) (n : Int) : (c.wordsS n).e = c.e := by
  unfold Cu.wordsS
  split
  · rfl
  · simp only [Cu.fail, fstE]
    rw [if_neg h]
theorem words_ok {c : Cu} {n : Int} (h : (c.wordsS n).e = 0) : c.e = 0 ∧ c.s = false ∧ 0 ≤ n ∧ 2 * n ≤ (c.xs.length : Int) ∧ c.wordsS n = cu (c.xs.drop (2 * n.toNat)) ∧ c.wordsV n = Take.words (c.xs.take (2 * n.toNat)) := by
  have he : c.e = 0 := by
    by_cases he : c.e = 0
    · exact he
    · rw [wordsS_dead he] at h; exact h
  by_cases hk : c.okW n = true
  · obtain ⟨h1, h2, h3⟩ := (Cu.okW_iff c n).1 hk
    refine ⟨he, h1, h2, h3, ?_, ?_⟩
    · unfold Cu.wordsS cu; rw [if_pos hk, h1, he]
    · unfold Cu.wordsV; rw [if_pos hk]
  · exfalso
    unfold Cu.wordsS at h
    rw [if_neg hk] at h
    simp only [Cu.fail, fstE] at h
    rw [if_pos he] at h
    exact absurd h (by decide)
theorem okW_cu (l : List Int) (n : Nat) (h : 2 * n ≤ l.length) : (cu l).okW (n : Int) = true := by
  rw [Cu.okW_iff]
  exact ⟨rfl, by omega, by show 2 * (n : Int) ≤ (l.length : Int); omega⟩
theorem wordsV_app (u t : List Int) {n : Int} (hn : 2 * n = (u.length : Int)) : (cu (u ++ t)).wordsV n = Take.words u := by
  obtain ⟨m, rfl⟩ := Int.eq_ofNat_of_zero_le (show 0 ≤ n by omega)
  unfold Cu.wordsV
  rw [if_pos (okW_cu _ _ (by rw [List.length_append]; omega))]
  show Take.words ((u ++ t).take (2 * (m : Int).toNat)) = _
  rw [show 2 * (m : Int).toNat = u.length by omega]
  simp
theorem wordsS_app (u t : List Int) {n : Int} (hn : 2 * n = (u.length : Int)) : (cu (u ++ t)).wordsS n = cu t := by
  obtain ⟨m, rfl⟩ := Int.eq_ofNat_of_zero_le (show 0 ≤ n by omega)
  unfold Cu.wordsS
  rw [if_pos (okW_cu _ _ (by rw [List.length_append]; omega))]
  show (⟨(u ++ t).drop (2 * (m : Int).toNat), _, _⟩ : Cu) = _
  rw [show 2 * (m : Int).toNat = u.length by omega]
  simp [cu]
theorem two_words (a b : Int) : (Take.words [a, b]).headD 0 = a * 256 + b := by
  simp [Take.words, Take.pre, Take.wordAt, List.range_succ]
theorem wordV_cons (a b : Int) (t : List Int) : (cu (a :: b :: t)).wordV = a * 256 + b := by
  show ((cu ([a, b] ++ t)).wordsV 1).headD 0 = _
  rw [wordsV_app [a, b] t (n := 1) (by simp)]
  exact two_words a b
theorem wordS_cons (a b : Int) (t : List Int) : (cu (a :: b :: t)).wordS = cu t := wordsS_app [a, b] t (n := 1) (by simp)
theorem word_ok {c : Cu} (h : c.wordS.e = 0) : c.e = 0 ∧ c.s = false ∧ ∃ a b t, c.xs = a :: b :: t ∧ c.wordS = cu t ∧ c.wordV = a * 256 + b := by
  obtain ⟨h1, h2, h3, h4, h5, h6⟩ := words_ok (n := 1) h
  cases hx : c.xs with
  | nil => rw [hx] at h4; simp at h4
  | cons a t =>
  cases ht : t with
  | nil => rw [hx, ht] at h4; simp at h4
  | cons b r =>
    refine ⟨h1, h2, a, b, r, rfl, ?_, ?_⟩
    · show c.wordsS 1 = _
      rw [h5, hx, ht]; rfl
    · show (c.wordsV 1).headD 0 = _
      rw [h6, hx, ht]; exact two_words a b
end Go.Proofs.Ytdjeekpgcjcffaa.Cu
end
section
namespace Go.Proofs.Ytdjeekpgcjcffaa.Fil
open Go.RowKit Go.Proofs.Ytdjeekpgcjcffaa.P Go.Proofs.Ytdjeekpgcjcffaa.E Go.Proofs.Ytdjeekpgcjcffaa.Cur Go.Proofs.Ytdjeekpgcjcffaa.Cu Go.Proofs.Ytdjeekpgcjcffaa.Same Go.Proofs.YtdjeekpgcjcffaaW.PrintWords Go.Proofs.YtdjeekpgcjcffaaW.PrintLast Go.Proofs.YtdjeekpgcjcffaaW.PrintMore
attribute [local go_sem] Oper.semAt_some
structure RdOk (rd : Rdp) : Prop where
  lt : ∀ s c, c.good → c.xs ≠ [] → (rd s c).1.xs.length < c.xs.length
  gd : ∀ s c, c.good → goodR (rd s c).2.1
  sm : ∀ s c, c.good → 0 ≤ s → s ≤ 245 → (rd s c).1.e = 0 → 0 ≤ (rd s c).2.2 ∧ (rd s c).2.2 ≤ 245
theorem bytesS_len (c : Cu) (n : Int) : (c.bytesS n).xs.length ≤ c.xs.length := by
  unfold Cu.bytesS
  split
  · simp
  · simp [Cu.fail]
theorem wordsS_len (c : Cu) (n : Int) : (c.wordsS n).xs.length ≤ c.xs.length := by
  unfold Cu.wordsS
  split
  · simp
  · simp [Cu.fail]
theorem need_len (c : Cu) (ok : Bool) (f : Int) : (c.need ok f).xs.length = c.xs.length := rfl
theorem byteS_lt {c : Cu} (h : c.good) (hx : c.xs ≠ []) : c.byteS.xs.length < c.xs.length := by
  have hl : 0 < c.xs.length := List.length_pos_iff.2 hx
  unfold Cu.byteS Cu.bytesS
  split
  · simp; omega
  · simp [Cu.fail]; omega
theorem wordS_len (c : Cu) : c.wordS.xs.length ≤ c.xs.length := wordsS_len c 1
theorem head_len (c : Cu) : (head c).1.xs.length ≤ c.byteS.xs.length := by
  simp only [head, need_len]
  refine Nat.le_trans (wordS_len _) ?_
  rw [need_len]
  refine Nat.le_trans (wordS_len _) ?_
  rw [need_len]
  exact wordS_len _
theorem head_good {c : Cu} (h : c.good) : (head c).1.good := Cu.good_need (Cu.good_wordS (Cu.good_need (Cu.good_wordS (Cu.good_need (Cu.good_wordS (Cu.good_need (Cu.good_byteS h) _ _)) _ _)) _ _)) _ _
theorem head_bds {c : Cu} (h : c.good) : (0 ≤ (head c).2.1 ∧ (head c).2.1 < 65536) ∧ (0 ≤ (head c).2.2.1 ∧ (head c).2.2.1 < 65536) ∧ (0 ≤ (head c).2.2.2 ∧ (head c).2.2.2 < 65536) :=
  ⟨Cu.wordV_bd (Cu.good_need (Cu.good_byteS h) _ _), Cu.wordV_bd (Cu.good_need (Cu.good_wordS (Cu.good_need (Cu.good_byteS h) _ _)) _ _), head_bd h⟩
theorem zero16 : (0 : Int) ≤ 0 ∧ (0 : Int) < 65536 := by decide
def rd0 : Rdp := asked
def rd1 : Rdp := fun s c => ((told c).1, (told c).2, s)
def rd2 : Rdp := fun s c => ((written c).1, (written c).2, s)
theorem rdok0 : RdOk rd0 := by
  refine ⟨fun s c h hx => ?_, fun s c h => ⟨(head_bds h).1, (head_bds h).2.1, (head_bds h).2.2, fun x hx => by cases hx⟩, fun s c h h0 h1 he => ?_⟩
  · exact Nat.lt_of_le_of_lt (head_len c) (byteS_lt h hx)
  · have he : ((head c).1.need (decide (s + (2 + 2 * (head c).2.2.2) ≤ 245)) 5).e = 0 := he
    have hb := head_bd h
    obtain ⟨_, h3, _⟩ := need_ok (by decide) he
    have h3 := of_decide_eq_true h3
    show 0 ≤ s + (2 + 2 * (head c).2.2.2) ∧ s + (2 + 2 * (head c).2.2.2) ≤ 245
    omega
theorem rdok1 : RdOk rd1 := by
  refine ⟨fun s c h hx => ?_, fun s c h => ⟨zero16, zero16, zero16, fun x hx => ?_⟩, fun s c h h0 h1 he => ⟨h0, h1⟩⟩
  · refine Nat.lt_of_le_of_lt (wordsS_len _ _) ?_
    rw [need_len]
    refine Nat.lt_of_le_of_lt (bytesS_len _ _) ?_
    rw [need_len]
    exact byteS_lt h hx
  · exact Cu.wordsV_bd (Cu.good_need (Cu.good_byteS (Cu.good_need (Cu.good_byteS h) _ _)) _ _) _ x hx
theorem rdok2 : RdOk rd2 := by
  refine ⟨fun s c h hx => ?_, fun s c h => ⟨(head_bds h).1, (head_bds h).2.1, (head_bds h).2.2, fun x hx => ?_⟩, fun s c h h0 h1 he => ⟨h0, h1⟩⟩
  · refine Nat.lt_of_le_of_lt (wordsS_len _ _) ?_
    rw [need_len]
    exact Nat.lt_of_le_of_lt (head_len c) (byteS_lt h hx)
  · exact Cu.wordsV_bd (Cu.good_need (head_good h) _ _) _ x hx
def leftW (W : World) (gb : Nat) : Nat := match W.heap[gb]? with
  | some (.cells cs _ _) => (match cs[0]? with | some (Value.slice _ n _) => n | _ => 0)
  | _ => 0
theorem leftW_at {lo hi : Nat} {W : World} {gb : Nat} {c : Cu} (h : PAt lo hi W gb c) : leftW W gb = c.xs.length := by
  obtain ⟨⟨_, A, n, h1, _⟩, _⟩ := h
  unfold leftW
  rw [h1]
  rfl
def OneC (fo : Nat) (lbo : Array Value) (sb : Nat) (rd : Rdp) : Prop := ∀ {lo hi g : Nat} {c : Cu} {s : Int} {w : World}, PAt lo hi w g c → SumAt w sb s → (g ≠ sb ∧ (sb < lo ∨ hi ≤ sb)) → (0 ≤ s ∧ s ≤ 245) →
  Calls Try.prog fo (#[.pointer (some ⟨g, 0, none⟩)] ++ lbo) w fun en w' => ∃ A n, en = .returned (.agg (recC (rd s c).2.1.f0 (rd s c).2.1.f1 (rd s c).2.1.f2 (.slice A (rd s c).2.1.f3.length n))) ∧ (rd s c).2.1.f3.length ≤ n ∧ Row16 w.heap.size w'.heap.size w' A (rd s c).2.1.f3 ∧ PAt lo hi w' g (rd s c).1 ∧ SumAt w' sb (rd s c).2.2 ∧ UpdS (fun k => k = g ∨ k = sb) w w'
theorem one0 (sb : Nat) : OneC 34 #[.pointer (some ⟨sb, 0, none⟩)] sb rd0 := by
  intro lo hi g c s w h hs hn hb
  refine (asked_any h hs hn hb).mono ?_
  rintro en w' ⟨rfl, b1, b2, b3⟩
  exact ⟨none, 0, rfl, Nat.le_refl _, row16_nil _ _ _ _, b1, b2, b3⟩
theorem one1 (sb : Nat) : OneC 38 #[] sb rd1 := by
  intro lo hi g c s w h hs hn hb
  refine (told_any h).mono ?_
  rintro en w' ⟨A, n, rfl, b1, b2, b3, b4⟩
  exact ⟨A, n, rfl, b1, b2, b3, blk_kept hs b4.kept (fun e => hn.1 e.symm), UpdS.of_upd b4 (.inl rfl)⟩
theorem one2 (sb : Nat) : OneC 40 #[] sb rd2 := by
  intro lo hi g c s w h hs hn hb
  refine (written_any h).mono ?_
  rintro en w' ⟨A, n, rfl, b1, b2, b3, b4⟩
  exact ⟨A, n, rfl, b1, b2, b3, blk_kept hs b4.kept (fun e => hn.1 e.symm), UpdS.of_upd b4 (.inl rfl)⟩
theorem OneC.use {fo : Nat} {lbo : Array Value} {sb : Nat} {rd : Rdp} (h : OneC fo lbo sb rd) {lo hi g : Nat} {c c' : Cu} {s s' : Int} {x : S43} {w : World} (ez : (c', x, s') = rd s c) (p : PAt lo hi w g c) (q : SumAt w sb s) (n : g ≠ sb ∧ (sb < lo ∨ hi ≤ sb)) (b : 0 ≤ s ∧ s ≤ 245) :
    Calls Try.prog fo (#[.pointer (some ⟨g, 0, none⟩)] ++ lbo) w fun en w' => ∃ A n, en = .returned (.agg (recC x.f0 x.f1 x.f2 (.slice A x.f3.length n))) ∧ x.f3.length ≤ n ∧ Row16 w.heap.size w'.heap.size w' A x.f3 ∧ PAt lo hi w' g c' ∧ SumAt w' sb s' ∧ UpdS (fun k => k = g ∨ k = sb) w w' := by
  have := h p q n b
  rw [← ez] at this
  exact this
structure Held2 (W0 : World) (gb gm sb l b2 b3 : Nat) (f : Value) : Prop where
  h2 : W0.cell? ⟨b2, 0, none⟩ = some (.pointer (some ⟨gb, 0, none⟩))
  h3 : W0.cell? ⟨b3, 0, none⟩ = some f
  n2 : b2 ≠ gb ∧ b2 ≠ gm ∧ b2 ≠ sb ∧ b2 ≠ l
  n3 : b3 ≠ gb ∧ b3 ≠ gm ∧ b3 ≠ sb ∧ b3 ≠ l
theorem Held2.at {W0 W : World} {gb gm sb l lo hi b2 b3 : Nat} {code s : Int} {rec : Loop} {c : Cu} {os : List S43} {raws : List RawR} {v f : Value} (k : Held2 W0 gb gm sb l b2 b3 f) (h : LS W0 gb gm sb l lo hi code rec W c s os raws v) : W.cell? ⟨b2, 0, none⟩ = some (.pointer (some ⟨gb, 0, none⟩)) ∧ W.cell? ⟨b3, 0, none⟩ = some f :=
  ⟨Go.Proofs.YtdjeekpgcjcffaaW.PrintWords.cell_kept k.h2 h.up.kept (by have := k.n2; show ¬ (b2 = gb ∨ b2 = gm ∨ b2 = sb ∨ b2 = l); omega), Go.Proofs.YtdjeekpgcjcffaaW.PrintWords.cell_kept k.h3 h.up.kept (by have := k.n3; show ¬ (b3 = gb ∨ b3 = gm ∨ b3 = sb ∨ b3 = l); omega)⟩
theorem fits_at {W0 Wr x3 x9 : World} {gb gm sb l lo hi : Nat} {code s : Int} {rec : Loop} {c : Cu} {os : List S43} {raws : List RawR} {v : Value} {r : RawR} {x : S43} (e0 : r.f0 = x.f0) (e1 : r.f1 = x.f1) (e2 : r.f2 = x.f2) (e3 : r.n = x.f3.length) (hz : x.f3.length ≤ r.c) (hr : Row16 Wr.heap.size x3.heap.size x3 r.A x.f3) (hb : Below x3.heap.size x3 x9) (h : LS W0 gb gm sb l lo hi code rec Wr c s os raws v) : ∀ W', Kept x9 W' (fun k => k < W0.heap.size ∨ v.ownBlock = some k) → FitsR W' r x := fun W' hk =>
  ⟨e0, e1, e2, e3, hz, hr W' ((Kept.of_below hb _).then_ hk fun j hj => .inl (by
    have := h.up.kept.1
    rcases hj with hj | hj
    · exact .inl (by omega)
    · have := (h.own j hj).2
      exact .inl (by omega)))⟩
theorem parts_step {rd : Rdp} {N k : Nat} {c0 c c' : Cu} {s s' : Int} {x : S43} {os : List S43} (h : partsG rd N 0 c0 = ((partsG rd (k + 1) s c).1, os ++ (partsG rd (k + 1) s c).2)) (hx : c.xs ≠ []) (he : c.e = 0) (e : (c', x, s') = rd s c) : partsG rd N 0 c0 = ((partsG rd k s' c').1, (os ++ [x]) ++ (partsG rd k s' c').2) := by
  rw [h]
  simp only [partsG]
  rw [if_neg (by simp [hx, he]), ← e]
  simp
theorem parts_stop {rd : Rdp} {N k : Nat} {c0 c : Cu} {s : Int} {os : List S43} (h : partsG rd N 0 c0 = ((partsG rd k s c).1, os ++ (partsG rd k s c).2)) (hx : c.xs = [] ∨ c.e ≠ 0) : c = (partsG rd N 0 c0).1 ∧ (c.e = 0 → os = (partsG rd N 0 c0).2) := by
  rw [h]
  have e : partsG rd k s c = (c, []) := by
    cases k with
    | zero => rfl
    | succ k => simp only [partsG]; rw [if_pos hx]
  rw [e]
  exact ⟨rfl, fun _ => by simp⟩
theorem parts_bad {rd : Rdp} {N k : Nat} {c0 c c' : Cu} {s s' : Int} {x : S43} {os : List S43} (h : partsG rd N 0 c0 = ((partsG rd (k + 1) s c).1, os ++ (partsG rd (k + 1) s c).2)) (hx : c.xs ≠ []) (he : c.e = 0) (e : (c', x, s') = rd s c) (hb : c'.e ≠ 0) : c' = (partsG rd N 0 c0).1 := by
  have := parts_step h hx he e
  exact (parts_stop this (.inr hb)).1
theorem iter0 {W0 : World} {gb gm sb l lo hi b2 b3 N : Nat} {code : Int} {rec : Loop} (L : Lay W0.heap.size gb gm sb l lo hi) (K : Held2 W0 gb gm sb l b2 b3 (.func (.func 34) #[] #[.pointer (some ⟨sb, 0, none⟩)])) : Iter rd0 #[.pointer (some ⟨b2, 0, none⟩), .pointer (some ⟨b3, 0, none⟩)] W0 gb gm sb l lo hi code rec N := by
  intro W c0 h0 hN hY
  have H0 := Aside0.mk h0
  have HN := Aside0.mk hN
  have HY := Aside0.mk hY
  have HL := Aside0.mk L
  have HKK := Aside0.mk K
  clear h0 hN hY L K
  show Calls Try.prog 42 #[.func (.yield l) #[] #[], .pointer (some ⟨b2, 0, none⟩), .pointer (some ⟨b3, 0, none⟩)] W _
  go_enter Try.func42, Try.ntmps42
  go_wp2
  go_loopw [4] (fun _ wr => ∃ (c : Cu) (s : Int) (os : List S43) (raws : List RawR) (v : Value) (k : Nat), Aside0 (LS W0 gb gm sb l lo hi code rec wr c s os raws v) ∧ Aside0 (c.xs.length ≤ k) ∧ Aside0 (c.e = 0 → 0 ≤ s ∧ s ≤ 245) ∧ Aside0 (partsG rd0 N 0 c0 = ((partsG rd0 k s c).1, os ++ (partsG rd0 k s c).2))) (fun _ wr => leftW wr gb)
  case atStart => exact ⟨c0, 0, [], [], _, N, H0, HN, ⟨fun _ => ⟨by decide, by decide⟩⟩, ⟨by simp⟩⟩
  case round =>
    clear H0
    obtain ⟨c, s, os, raws, v, k, H, HLE, HSB, HP⟩ := hrel
    obtain ⟨q2, q3⟩ := HKK.out.at H.out
    by_cases hx : c.xs = []
    · have hl : c.xs.length = 0 := by rw [hx]; rfl
      have HX := Aside0.mk (parts_stop HP.out (.inl hx))
      clear hx
      go_wp2_with (go_at_call 43; (with_reducible refine (p_left H.out.cur).mono ?_); rintro en x1 ⟨rfl, rfl⟩; rw [hl])
      exact bodyPost_end (results_none rfl _ _ _) rfl ⟨⟨_, rfl⟩, c, s, os, raws, v, H.out, HX.out⟩
    · have hl : 0 < (c.xs.length : Int) := by have := List.length_pos_iff.2 hx; omega
      have NX := Aside0.mk hx
      clear hx
      by_cases he : c.e = 0
      · have g1 : (c.e == 0) = true := by rw [he]; rfl
        have HE := Aside0.mk he
        clear he
        obtain ⟨⟨c', x, s'⟩, ez_⟩ : ∃ z, z = rd0 s c := ⟨_, rfl⟩
        have EZ := Aside0.mk ez_
        clear ez_
        have HC := Aside0.mk (show Calls Try.prog 34 #[.pointer (some ⟨gb, 0, none⟩), .pointer (some ⟨sb, 0, none⟩)] _ _ from OneC.use (one0 sb) EZ.out H.out.cur H.out.sum ⟨HL.out.ne.2.1, HL.out.out.2.1⟩ (HSB.out HE.out))
        have hlt_ := rdok0.lt s c H.out.cur.2 NX.out
        have hgr_ := rdok0.gd s c H.out.cur.2
        have hsm_ := rdok0.sm s c H.out.cur.2 (HSB.out HE.out).1 (HSB.out HE.out).2
        rw [← EZ.out] at hlt_ hgr_ hsm_
        have LT := Aside0.mk (show c'.xs.length < c.xs.length from hlt_)
        have GR := Aside0.mk (show goodR x from hgr_)
        have SM := Aside0.mk (show c'.e = 0 → 0 ≤ s' ∧ s' ≤ 245 from hsm_)
        clear hlt_ hgr_ hsm_
        go_upto_region 1 with (first | (go_at_call 43; (with_reducible refine (p_left H.out.cur).mono ?_); rintro en x1 ⟨rfl, rfl⟩) | (go_at_call 25; (with_reducible refine (p_err H.out.cur).mono ?_); rintro en x2 ⟨rfl, rfl⟩))
        go_upto_region 2 with (first | (go_at_call 34; (with_reducible refine HC.out.mono ?_); rintro en x3 ⟨A5, n5, rfl, hz_, hr_, hp_, hs_, hu_⟩; have RZ := Aside0.mk hz_; have RR := Aside0.mk hr_; have H1 := Aside0.mk (H.out.move HL.out hu_ hp_ hs_ (by have := H.out.bd; have := LT.out; omega)); have HU := Aside0.mk hu_; clear hz_ hr_ hp_ hs_ hu_ HC) | ((with_reducible refine gate_dst (N := 4) rfl ?_); refine ev_rec rfl rfl ?_; intro b4 w4 hg_ h1_ h2_; have G4 := Aside0.mk hg_; have A4 := Aside0.mk h1_; have B4 := Aside0.mk h2_; clear hg_ h1_ h2_) | ((with_reducible refine gate_op (u := .store 43 (.tmp 4) (.tmp 15)) rfl ?_); refine Same.wpList_store_row 43 (.tmp 4) (.tmp 15) rfl rfl rfl rfl A4.out rfl (rec_info rfl) recs_one ?_; intro x9 h3_ h4_; have A9 := Aside0.mk h3_; have B9 := Aside0.mk (B4.out.trans (h4_.below (by have := G4.out; omega) B4.out.size)); clear h3_ h4_))
        have H2 := Aside0.mk (H1.out.below HL.out B9.out)
        have FX := Aside0.mk (fits_at (r := ⟨x.f0, x.f1, x.f2, A5, x.f3.length, n5⟩) rfl rfl rfl rfl RZ.out RR.out B9.out H.out)
        obtain ⟨k', hk'⟩ : ∃ k', k = k' + 1 := ⟨k - 1, by have := HLE.out; omega⟩
        have HP2 := HP.out
        rw [hk'] at HP2
        have HP3 := Aside0.mk HP2
        have HKK' := Aside0.mk hk'
        clear HP2 hk'
        obtain ⟨q2', q3'⟩ := HKK.out.at H2.out
        by_cases he : c'.e = 0
        · have g2 : (c'.e != 0) = false := by rw [he]; rfl
          have HE2 := Aside0.mk he
          clear he
          obtain ⟨fn, tmps, assign, body, hy, hR⟩ := HY.out _ c' s' os raws v ⟨x.f0, x.f1, x.f2, A5, x.f3.length, n5⟩ x H2.out GR.out FX.out (by have := H.out.bd; have := LT.out; omega)
          have hy2 : (Instr.yield l #[.agg #[.int .u16 x.f0, .int .u16 x.f1, .int .u16 x.f2, .slice A5 x.f3.length n5]]).run Try.prog x9 = _ := hy
          clear hy
          have k0 := blk_cell A9.out 0
          have k1 := blk_cell A9.out 1
          have k2 := blk_cell A9.out 2
          have k3 := blk_cell A9.out 3
          simp only [recC, List.getElem?_toArray, List.getElem?_cons_zero, List.getElem?_cons_succ] at k0 k1 k2 k3
          have HRR := Aside0.mk hR
          clear hR
          refine (wpIn_wide (n := 6)).1 ?_
          gi_wp2_with (refine ⟨trivial, ?_⟩; gi_at_call 25; refine (callsIn_wide.2 (p_err H2.out.cur)).mono ?_; rintro en x5 ⟨rfl, rfl⟩)
          refine HRR.out.mono ?_
          rintro e W3 ⟨rfl, v', h9⟩
          have H9 := Aside0.mk h9
          clear h9
          gi_wp2
          go_wp2
          go_roundw
          case rel => exact ⟨c', s', os ++ [x], _, v', k', H9, ⟨by have := HLE.out; have := LT.out; have := HKK'.out; omega⟩, SM, ⟨parts_step HP3.out NX.out HE.out EZ.out⟩⟩
          case measure => rw [leftW_at H9.out.cur, leftW_at H.out.cur]; exact LT.out
        · have g2 : (c'.e != 0) = true := by simpa using he
          have HX := Aside0.mk (parts_bad HP3.out NX.out HE.out EZ.out he)
          have HX2 := Aside0.mk he
          clear he
          go_wp2_with (first | (go_at_call 25; (with_reducible refine (p_err H2.out.cur).mono ?_); rintro en x5 ⟨rfl, rfl⟩))
          refine bodyPost_ret (results_none rfl _ _ _) rfl ⟨⟨_, rfl⟩, c', s', os, raws, v, H2.out, HX.out, fun e => absurd e HX2.out⟩
      · have g1 : (c.e == 0) = false := by simpa using he
        have HX := Aside0.mk (parts_stop HP.out (.inr he))
        clear he
        go_wp2_with (first | (go_at_call 43; (with_reducible refine (p_left H.out.cur).mono ?_); rintro en x1 ⟨rfl, rfl⟩) | (go_at_call 25; (with_reducible refine (p_err H.out.cur).mono ?_); rintro en x2 ⟨rfl, rfl⟩))
        exact bodyPost_end (results_none rfl _ _ _) rfl ⟨⟨_, rfl⟩, c, s, os, raws, v, H.out, HX.out⟩
theorem iter1 {W0 : World} {gb gm sb l lo hi b2 b3 N : Nat} {code : Int} {rec : Loop} (L : Lay W0.heap.size gb gm sb l lo hi) (K : Held2 W0 gb gm sb l b2 b3 (.func (.func 38) #[] #[])) : Iter rd1 #[.pointer (some ⟨b2, 0, none⟩), .pointer (some ⟨b3, 0, none⟩)] W0 gb gm sb l lo hi code rec N := by
  intro W c0 h0 hN hY
  have H0 := Aside0.mk h0
  have HN := Aside0.mk hN
  have HY := Aside0.mk hY
  have HL := Aside0.mk L
  have HKK := Aside0.mk K
  clear h0 hN hY L K
  show Calls Try.prog 42 #[.func (.yield l) #[] #[], .pointer (some ⟨b2, 0, none⟩), .pointer (some ⟨b3, 0, none⟩)] W _
  go_enter Try.func42, Try.ntmps42
  go_wp2
  go_loopw [4] (fun _ wr => ∃ (c : Cu) (s : Int) (os : List S43) (raws : List RawR) (v : Value) (k : Nat), Aside0 (LS W0 gb gm sb l lo hi code rec wr c s os raws v) ∧ Aside0 (c.xs.length ≤ k) ∧ Aside0 (c.e = 0 → 0 ≤ s ∧ s ≤ 245) ∧ Aside0 (partsG rd1 N 0 c0 = ((partsG rd1 k s c).1, os ++ (partsG rd1 k s c).2))) (fun _ wr => leftW wr gb)
  case atStart => exact ⟨c0, 0, [], [], _, N, H0, HN, ⟨fun _ => ⟨by decide, by decide⟩⟩, ⟨by simp⟩⟩
  case round =>
    clear H0
    obtain ⟨c, s, os, raws, v, k, H, HLE, HSB, HP⟩ := hrel
    obtain ⟨q2, q3⟩ := HKK.out.at H.out
    by_cases hx : c.xs = []
    · have hl : c.xs.length = 0 := by rw [hx]; rfl
      have HX := Aside0.mk (parts_stop HP.out (.inl hx))
      clear hx
      go_wp2_with (go_at_call 43; (with_reducible refine (p_left H.out.cur).mono ?_); rintro en x1 ⟨rfl, rfl⟩; rw [hl])
      exact bodyPost_end (results_none rfl _ _ _) rfl ⟨⟨_, rfl⟩, c, s, os, raws, v, H.out, HX.out⟩
    · have hl : 0 < (c.xs.length : Int) := by have := List.length_pos_iff.2 hx; omega
      have NX := Aside0.mk hx
      clear hx
      by_cases he : c.e = 0
      · have g1 : (c.e == 0) = true := by rw [he]; rfl
        have HE := Aside0.mk he
        clear he
        obtain ⟨⟨c', x, s'⟩, ez_⟩ : ∃ z, z = rd1 s c := ⟨_, rfl⟩
        have EZ := Aside0.mk ez_
        clear ez_
        have HC := Aside0.mk (show Calls Try.prog 38 #[.pointer (some ⟨gb, 0, none⟩)] _ _ from OneC.use (one1 sb) EZ.out H.out.cur H.out.sum ⟨HL.out.ne.2.1, HL.out.out.2.1⟩ (HSB.out HE.out))
        have hlt_ := rdok1.lt s c H.out.cur.2 NX.out
        have hgr_ := rdok1.gd s c H.out.cur.2
        have hsm_ := rdok1.sm s c H.out.cur.2 (HSB.out HE.out).1 (HSB.out HE.out).2
        rw [← EZ.out] at hlt_ hgr_ hsm_
        have LT := Aside0.mk (show c'.xs.length < c.xs.length from hlt_)
        have GR := Aside0.mk (show goodR x from hgr_)
        have SM := Aside0.mk (show c'.e = 0 → 0 ≤ s' ∧ s' ≤ 245 from hsm_)
        clear hlt_ hgr_ hsm_
        go_upto_region 1 with (first | (go_at_call 43; (with_reducible refine (p_left H.out.cur).mono ?_); rintro en x1 ⟨rfl, rfl⟩) | (go_at_call 25; (with_reducible refine (p_err H.out.cur).mono ?_); rintro en x2 ⟨rfl, rfl⟩))
        go_upto_region 2 with (first | (go_at_call 38; (with_reducible refine HC.out.mono ?_); rintro en x3 ⟨A5, n5, rfl, hz_, hr_, hp_, hs_, hu_⟩; have RZ := Aside0.mk hz_; have RR := Aside0.mk hr_; have H1 := Aside0.mk (H.out.move HL.out hu_ hp_ hs_ (by have := H.out.bd; have := LT.out; omega)); have HU := Aside0.mk hu_; clear hz_ hr_ hp_ hs_ hu_ HC) | ((with_reducible refine gate_dst (N := 4) rfl ?_); refine ev_rec rfl rfl ?_; intro b4 w4 hg_ h1_ h2_; have G4 := Aside0.mk hg_; have A4 := Aside0.mk h1_; have B4 := Aside0.mk h2_; clear hg_ h1_ h2_) | ((with_reducible refine gate_op (u := .store 43 (.tmp 4) (.tmp 15)) rfl ?_); refine Same.wpList_store_row 43 (.tmp 4) (.tmp 15) rfl rfl rfl rfl A4.out rfl (rec_info rfl) recs_one ?_; intro x9 h3_ h4_; have A9 := Aside0.mk h3_; have B9 := Aside0.mk (B4.out.trans (h4_.below (by have := G4.out; omega) B4.out.size)); clear h3_ h4_))
        have H2 := Aside0.mk (H1.out.below HL.out B9.out)
        have FX := Aside0.mk (fits_at (r := ⟨x.f0, x.f1, x.f2, A5, x.f3.length, n5⟩) rfl rfl rfl rfl RZ.out RR.out B9.out H.out)
        obtain ⟨k', hk'⟩ : ∃ k', k = k' + 1 := ⟨k - 1, by have := HLE.out; omega⟩
        have HP2 := HP.out
        rw [hk'] at HP2
        have HP3 := Aside0.mk HP2
        have HKK' := Aside0.mk hk'
        clear HP2 hk'
        obtain ⟨q2', q3'⟩ := HKK.out.at H2.out
        by_cases he : c'.e = 0
        · have g2 : (c'.e != 0) = false := by rw [he]; rfl
          have HE2 := Aside0.mk he
          clear he
          obtain ⟨fn, tmps, assign, body, hy, hR⟩ := HY.out _ c' s' os raws v ⟨x.f0, x.f1, x.f2, A5, x.f3.length, n5⟩ x H2.out GR.out FX.out (by have := H.out.bd; have := LT.out; omega)
          have hy2 : (Instr.yield l #[.agg #[.int .u16 x.f0, .int .u16 x.f1, .int .u16 x.f2, .slice A5 x.f3.length n5]]).run Try.prog x9 = _ := hy
          clear hy
          have k0 := blk_cell A9.out 0
          have k1 := blk_cell A9.out 1
          have k2 := blk_cell A9.out 2
          have k3 := blk_cell A9.out 3
          simp only [recC, List.getElem?_toArray, List.getElem?_cons_zero, List.getElem?_cons_succ] at k0 k1 k2 k3
          have HRR := Aside0.mk hR
          clear hR
          refine (wpIn_wide (n := 6)).1 ?_
          gi_wp2_with (refine ⟨trivial, ?_⟩; gi_at_call 25; refine (callsIn_wide.2 (p_err H2.out.cur)).mono ?_; rintro en x5 ⟨rfl, rfl⟩)
          refine HRR.out.mono ?_
          rintro e W3 ⟨rfl, v', h9⟩
          have H9 := Aside0.mk h9
          clear h9
          gi_wp2
          go_wp2
          go_roundw
          case rel => exact ⟨c', s', os ++ [x], _, v', k', H9, ⟨by have := HLE.out; have := LT.out; have := HKK'.out; omega⟩, SM, ⟨parts_step HP3.out NX.out HE.out EZ.out⟩⟩
          case measure => rw [leftW_at H9.out.cur, leftW_at H.out.cur]; exact LT.out
        · have g2 : (c'.e != 0) = true := by simpa using he
          have HX := Aside0.mk (parts_bad HP3.out NX.out HE.out EZ.out he)
          have HX2 := Aside0.mk he
          clear he
          go_wp2_with (first | (go_at_call 25; (with_reducible refine (p_err H2.out.cur).mono ?_); rintro en x5 ⟨rfl, rfl⟩))
          refine bodyPost_ret (results_none rfl _ _ _) rfl ⟨⟨_, rfl⟩, c', s', os, raws, v, H2.out, HX.out, fun e => absurd e HX2.out⟩
      · have g1 : (c.e == 0) = false := by simpa using he
        have HX := Aside0.mk (parts_stop HP.out (.inr he))
        clear he
        go_wp2_with (first | (go_at_call 43; (with_reducible refine (p_left H.out.cur).mono ?_); rintro en x1 ⟨rfl, rfl⟩) | (go_at_call 25; (with_reducible refine (p_err H.out.cur).mono ?_); rintro en x2 ⟨rfl, rfl⟩))
        exact bodyPost_end (results_none rfl _ _ _) rfl ⟨⟨_, rfl⟩, c, s, os, raws, v, H.out, HX.out⟩
theorem iter2 {W0 : World} {gb gm sb l lo hi b2 b3 N : Nat} {code : Int} {rec : Loop} (L : Lay W0.heap.size gb gm sb l lo hi) (K : Held2 W0 gb gm sb l b2 b3 (.func (.func 40) #[] #[])) : Iter rd2 #[.pointer (some ⟨b2, 0, none⟩), .pointer (some ⟨b3, 0, none⟩)] W0 gb gm sb l lo hi code rec N := by
  intro W c0 h0 hN hY
  have H0 := Aside0.mk h0
  have HN := Aside0.mk hN
  have HY := Aside0.mk hY
  have HL := Aside0.mk L
  have HKK := Aside0.mk K
  clear h0 hN hY L K
  show Calls Try.prog 42 #[.func (.yield l) #[] #[], .pointer (some ⟨b2, 0, none⟩), .pointer (some ⟨b3, 0, none⟩)] W _
  go_enter Try.func42, Try.ntmps42
  go_wp2
  go_loopw [4] (fun _ wr => ∃ (c : Cu) (s : Int) (os : List S43) (raws : List RawR) (v : Value) (k : Nat), Aside0 (LS W0 gb gm sb l lo hi code rec wr c s os raws v) ∧ Aside0 (c.xs.length ≤ k) ∧ Aside0 (c.e = 0 → 0 ≤ s ∧ s ≤ 245) ∧ Aside0 (partsG rd2 N 0 c0 = ((partsG rd2 k s c).1, os ++ (partsG rd2 k s c).2))) (fun _ wr => leftW wr gb)
  case atStart => exact ⟨c0, 0, [], [], _, N, H0, HN, ⟨fun _ => ⟨by decide, by decide⟩⟩, ⟨by simp⟩⟩
  case round =>
    clear H0
    obtain ⟨c, s, os, raws, v, k, H, HLE, HSB, HP⟩ := hrel
    obtain ⟨q2, q3⟩ := HKK.out.at H.out
    by_cases hx : c.xs = []
    · have hl : c.xs.length = 0 := by rw [hx]; rfl
      have HX := Aside0.mk (parts_stop HP.out (.inl hx))
      clear hx
      go_wp2_with (go_at_call 43; (with_reducible refine (p_left H.out.cur).mono ?_); rintro en x1 ⟨rfl, rfl⟩; rw [hl])
      exact bodyPost_end (results_none rfl _ _ _) rfl ⟨⟨_, rfl⟩, c, s, os, raws, v, H.out, HX.out⟩
    · have hl : 0 < (c.xs.length : Int) := by have := List.length_pos_iff.2 hx; omega
      have NX := Aside0.mk hx
      clear hx
      by_cases he : c.e = 0
      · have g1 : (c.e == 0) = true := by rw [he]; rfl
        have HE := Aside0.mk he
        clear he
        obtain ⟨⟨c', x, s'⟩, ez_⟩ : ∃ z, z = rd2 s c := ⟨_, rfl⟩
        have EZ := Aside0.mk ez_
        clear ez_
        have HC := Aside0.mk (show Calls Try.prog 40 #[.pointer (some ⟨gb, 0, none⟩)] _ _ from OneC.use (one2 sb) EZ.out H.out.cur H.out.sum ⟨HL.out.ne.2.1, HL.out.out.2.1⟩ (HSB.out HE.out))
        have hlt_ := rdok2.lt s c H.out.cur.2 NX.out
        have hgr_ := rdok2.gd s c H.out.cur.2
        have hsm_ := rdok2.sm s c H.out.cur.2 (HSB.out HE.out).1 (HSB.out HE.out).2
        rw [← EZ.out] at hlt_ hgr_ hsm_
        have LT := Aside0.mk (show c'.xs.length < c.xs.length from hlt_)
        have GR := Aside0.mk (show goodR x from hgr_)
        have SM := Aside0.mk (show c'.e = 0 → 0 ≤ s' ∧ s' ≤ 245 from hsm_)
        clear hlt_ hgr_ hsm_
        go_upto_region 1 with (first | (go_at_call 43; (with_reducible refine (p_left H.out.cur).mono ?_); rintro en x1 ⟨rfl, rfl⟩) | (go_at_call 25; (with_reducible refine (p_err H.out.cur).mono ?_); rintro en x2 ⟨rfl, rfl⟩))
        go_upto_region 2 with (first | (go_at_call 40; (with_reducible refine HC.out.mono ?_); rintro en x3 ⟨A5, n5, rfl, hz_, hr_, hp_, hs_, hu_⟩; have RZ := Aside0.mk hz_; have RR := Aside0.mk hr_; have H1 := Aside0.mk (H.out.move HL.out hu_ hp_ hs_ (by have := H.out.bd; have := LT.out; omega)); have HU := Aside0.mk hu_; clear hz_ hr_ hp_ hs_ hu_ HC) | ((with_reducible refine gate_dst (N := 4) rfl ?_); refine ev_rec rfl rfl ?_; intro b4 w4 hg_ h1_ h2_; have G4 := Aside0.mk hg_; have A4 := Aside0.mk h1_; have B4 := Aside0.mk h2_; clear hg_ h1_ h2_) | ((with_reducible refine gate_op (u := .store 43 (.tmp 4) (.tmp 15)) rfl ?_); refine Same.wpList_store_row 43 (.tmp 4) (.tmp 15) rfl rfl rfl rfl A4.out rfl (rec_info rfl) recs_one ?_; intro x9 h3_ h4_; have A9 := Aside0.mk h3_; have B9 := Aside0.mk (B4.out.trans (h4_.below (by have := G4.out; omega) B4.out.size)); clear h3_ h4_))
        have H2 := Aside0.mk (H1.out.below HL.out B9.out)
        have FX := Aside0.mk (fits_at (r := ⟨x.f0, x.f1, x.f2, A5, x.f3.length, n5⟩) rfl rfl rfl rfl RZ.out RR.out B9.out H.out)
        obtain ⟨k', hk'⟩ : ∃ k', k = k' + 1 := ⟨k - 1, by have := HLE.out; omega⟩
        have HP2 := HP.out
        rw [hk'] at HP2
        have HP3 := Aside0.mk HP2
        have HKK' := Aside0.mk hk'
        clear HP2 hk'
        obtain ⟨q2', q3'⟩ := HKK.out.at H2.out
        by_cases he : c'.e = 0
        · have g2 : (c'.e != 0) = false := by rw [he]; rfl
          have HE2 := Aside0.mk he
          clear he
          obtain ⟨fn, tmps, assign, body, hy, hR⟩ := HY.out _ c' s' os raws v ⟨x.f0, x.f1, x.f2, A5, x.f3.length, n5⟩ x H2.out GR.out FX.out (by have := H.out.bd; have := LT.out; omega)
          have hy2 : (Instr.yield l #[.agg #[.int .u16 x.f0, .int .u16 x.f1, .int .u16 x.f2, .slice A5 x.f3.length n5]]).run Try.prog x9 = _ := hy
          clear hy
          have k0 := blk_cell A9.out 0
          have k1 := blk_cell A9.out 1
          have k2 := blk_cell A9.out 2
          have k3 := blk_cell A9.out 3
          simp only [recC, List.getElem?_toArray, List.getElem?_cons_zero, List.getElem?_cons_succ] at k0 k1 k2 k3
          have HRR := Aside0.mk hR
          clear hR
          refine (wpIn_wide (n := 6)).1 ?_
          gi_wp2_with (refine ⟨trivial, ?_⟩; gi_at_call 25; refine (callsIn_wide.2 (p_err H2.out.cur)).mono ?_; rintro en x5 ⟨rfl, rfl⟩)
          refine HRR.out.mono ?_
          rintro e W3 ⟨rfl, v', h9⟩
          have H9 := Aside0.mk h9
          clear h9
          gi_wp2
          go_wp2
          go_roundw
          case rel => exact ⟨c', s', os ++ [x], _, v', k', H9, ⟨by have := HLE.out; have := LT.out; have := HKK'.out; omega⟩, SM, ⟨parts_step HP3.out NX.out HE.out EZ.out⟩⟩
          case measure => rw [leftW_at H9.out.cur, leftW_at H.out.cur]; exact LT.out
        · have g2 : (c'.e != 0) = true := by simpa using he
          have HX := Aside0.mk (parts_bad HP3.out NX.out HE.out EZ.out he)
          have HX2 := Aside0.mk he
          clear he
          go_wp2_with (first | (go_at_call 25; (with_reducible refine (p_err H2.out.cur).mono ?_); rintro en x5 ⟨rfl, rfl⟩))
          refine bodyPost_ret (results_none rfl _ _ _) rfl ⟨⟨_, rfl⟩, c', s', os, raws, v, H2.out, HX.out, fun e => absurd e HX2.out⟩
      · have g1 : (c.e == 0) = false := by simpa using he
        have HX := Aside0.mk (parts_stop HP.out (.inr he))
        clear he
        go_wp2_with (first | (go_at_call 43; (with_reducible refine (p_left H.out.cur).mono ?_); rintro en x1 ⟨rfl, rfl⟩) | (go_at_call 25; (with_reducible refine (p_err H.out.cur).mono ?_); rintro en x2 ⟨rfl, rfl⟩))
        exact bodyPost_end (results_none rfl _ _ _) rfl ⟨⟨_, rfl⟩, c, s, os, raws, v, H.out, HX.out⟩
end Go.Proofs.Ytdjeekpgcjcffaa.Fil
end
section
namespace Go.Proofs.Ytdjeekpgcjcffaa.P
open Go.RowKit Go.Proofs.YtdjeekpgcjcffaaW.PrintWords Go.Proofs.YtdjeekpgcjcffaaW.PrintLast Go.Proofs.YtdjeekpgcjcffaaW.PrintMore
attribute [local go_sem] max2_int min2_int max_two min_two max_three min_three max_four min_four   -- for this text's walks alone
def files_within.f (a0 : Int) : Option (Int) := if a0 = 2 then (some 5) else (some a0)
theorem files_within.calls (a0 : Int) (r : Int) (w : World) (h : files_within.f a0 = some r) :
    Calls Try.prog 26 #[.int .i64 a0] w fun e w' => e = .returned (.int .i64 r) ∧ Drawn0 w w' := by
  have H : (if a0 = 2 then (some 5) else (some a0)) = some r := h
  clear h
  by_cases c2 : a0 = 2
  · rw [if_pos c2] at H
    have c2b0 : (a0 == 2) = true := beq_iff_eq.mpr c2
    have c2b1 : (a0 != 2) = false := bne_eq_false_iff_eq.mpr c2
    clear c2
    obtain rfl := Option.some.inj H
    go_enter Try.func26, Try.ntmps26
    go_wp2
    go_ret
    exact ⟨by first | rfl | (simp; done) | (simp [*]; done), by repeat (first | exact Drawn0.refl _ | apply Drawn0.step)⟩
  · rw [if_neg c2] at H
    have c2b0 : (a0 == 2) = false := beq_eq_false_iff_ne.mpr c2
    have c2b1 : (a0 != 2) = true := bne_iff_ne.mpr c2
    obtain rfl := Option.some.inj H
    go_enter Try.func26, Try.ntmps26
    go_wp2
    go_ret
    exact ⟨by first | rfl | (simp; done) | (simp [*]; done), by repeat (first | exact Drawn0.refl _ | apply Drawn0.step)⟩
end Go.Proofs.Ytdjeekpgcjcffaa.P
end
section
namespace Go.Proofs.Ytdjeekpgcjcffaa.Fil
open Go.RowKit Go.Proofs.Ytdjeekpgcjcffaa.P Go.Proofs.Ytdjeekpgcjcffaa.E Go.Proofs.Ytdjeekpgcjcffaa.Cur Go.Proofs.Ytdjeekpgcjcffaa.Cu Go.Proofs.Ytdjeekpgcjcffaa.Same Go.Proofs.YtdjeekpgcjcffaaW.PrintWords Go.Proofs.YtdjeekpgcjcffaaW.PrintLast Go.Proofs.YtdjeekpgcjcffaaW.PrintMore
attribute [local go_sem] Oper.semAt_some
def within (e : Int) : Int := if e = 2 then 5 else e
def body (rd : Rdp) (may : Int → Bool) (bs : List Int) : Cu × List S43 :=
  let c2 := (cu bs).byteS.need (may (cu bs).byteV) 5
  let p := partsG rd (c2.bytesV (cu bs).byteV).length 0 (cu (c2.bytesV (cu bs).byteV))
  ((c2.bytesS (cu bs).byteV).need (p.1.e == 0) (within p.1.e), p.2)
def outc (code : Int) (b : Cu × List S43) : Msg × Int := if b.1.fin.e ≠ 0 then (zeroM, b.1.fin.e) else ({ zeroM with code := code, recs := b.2 }, 0)
def parse (dir code : Int) (bs : List Int) : Msg × Int :=
  if dir ≠ 0 ∧ dir ≠ 1 then (zeroM, 1) else if code ≠ 20 ∧ code ≠ 21 then (zeroM, 4) else
  if code = 20 then (if dir = 0 then outc 20 (body rd0 may0 bs) else outc 20 (body rd1 may1 bs)) else outc 21 (body rd2 may2 bs)
theorem full_mk (g fo : Nat) (lbo : Array Value) (w : World) : Calls Try.prog 24 #[.pointer (some ⟨g, 0, none⟩), .func (.func fo) #[] lbo] w fun en w' => ∃ b2 b3, en = .returned (.func (.func 42) #[] #[.pointer (some ⟨b2, 0, none⟩), .pointer (some ⟨b3, 0, none⟩)]) ∧ w.heap.size ≤ b2 ∧ w.heap.size ≤ b3 ∧ b2 < w'.heap.size ∧ b3 < w'.heap.size ∧ w'.cell? ⟨b2, 0, none⟩ = some (.pointer (some ⟨g, 0, none⟩)) ∧ w'.cell? ⟨b3, 0, none⟩ = some (.func (.func fo) #[] lbo) ∧ b2 ≠ b3 ∧ Below w.heap.size w w' := by
  go_enter Try.func24, Try.ntmps24
  go_wp2
  have a1 := blk_new w (.cells #[Value.pointer (some ⟨g, 0, none⟩)] 54 (0, 0))
  have b1 := below_alloc (Below.refl w.heap.size w) (.cells #[Value.pointer (some ⟨g, 0, none⟩)] 54 (0, 0))
  have a2 := blk_new (w.alloc (.cells #[Value.pointer (some ⟨g, 0, none⟩)] 54 (0, 0))) (.cells #[Value.func (.func fo) #[] lbo] 49 (0, 0))
  have b2 := below_alloc (Below.refl (w.alloc (.cells #[Value.pointer (some ⟨g, 0, none⟩)] 54 (0, 0))).heap.size _) (.cells #[Value.func (.func fo) #[] lbo] 49 (0, 0))
  rw [World.size_alloc] at a2
  refine bodyPost_ret (results_tmp rfl _ _ _) rfl ⟨w.heap.size, w.heap.size + 1, rfl, by omega, by omega, by simp; omega, by simp, blk_cell (blk_below a1 b2) 0, blk_cell a2 0, by omega, b1.trans (b2.mono (by simp))⟩
structure Nw2 (W1 : World) (g : Nat) (W : World) (c : Cu) : Prop where
  b : Below W1.heap.size W1 W
  cur : ∃ lo, PAt lo g W g c ∧ W1.heap.size ≤ lo
  gl : W1.heap.size ≤ g
section
variable {W1 W W' : World} {g : Nat} {c c' : Cu}
theorem Nw2.stp (h : Nw2 W1 g W c) (u : Upd g W W') (p : ∃ lo, PAt lo g W' g c' ∧ W1.heap.size ≤ lo) : Nw2 W1 g W' c' := ⟨h.b.trans (u.below h.gl h.b.size), p, h.gl⟩
theorem Nw2.below (h : Nw2 W1 g W c) (hb : Below W.heap.size W W') : Nw2 W1 g W' c := by
  obtain ⟨lo, p, hl⟩ := h.cur
  exact ⟨h.b.trans (hb.mono h.b.size), ⟨lo, p.below hb, hl⟩, h.gl⟩
theorem Nw2.good (h : Nw2 W1 g W c) : c.good := by
  obtain ⟨lo, p, _⟩ := h.cur
  exact p.2
theorem Nw2.byte (h : Nw2 W1 g W c) : Calls Try.prog 21 #[.pointer (some ⟨g, 0, none⟩)] W fun en w' => en = .returned (.int .u8 c.byteV) ∧ Nw2 W1 g w' c.byteS := by
  obtain ⟨lo, p, hl⟩ := h.cur
  exact (p_byte p).mono fun en w' ⟨e, q, u⟩ => ⟨e, h.stp u ⟨lo, q, hl⟩⟩
theorem Nw2.need (h : Nw2 W1 g W c) (ok : Bool) (f : Int) : Calls Try.prog 22 #[.pointer (some ⟨g, 0, none⟩), .bool ok, .int .i64 f] W fun en w' => en = .returned (.tuple #[]) ∧ Nw2 W1 g w' (c.need ok f) := by
  obtain ⟨lo, p, hl⟩ := h.cur
  exact (p_need p ok f).mono fun en w' ⟨e, q, u⟩ => ⟨e, h.stp u ⟨lo, q, hl⟩⟩
theorem Nw2.bytes (h : Nw2 W1 g W c) (n : Int) : Calls Try.prog 23 #[.pointer (some ⟨g, 0, none⟩), .int .i64 n] W fun en w' => ∃ A' c', en = .returned (.slice A' (c.bytesV n).length c') ∧ (c.bytesV n).length ≤ c' ∧ Kd.C (Kd.int .u8) w' A' (c.bytesV n).length (c.bytesV n) ∧ Nw2 W1 g w' (c.bytesS n) := by
  obtain ⟨lo, p, hl⟩ := h.cur
  exact (p_bytes p n).mono fun en w' ⟨A', c', e, z, r, q, u⟩ => ⟨A', c', e, z, r.now, h.stp u ⟨lo, q, hl⟩⟩
end
structure Af (W3 : World) (g lo : Nat) (W : World) (c : Cu) : Prop where
  k : UpdS (fun k => k = g) W3 W
  cur : PAt lo g W g c
section
variable {W3 W W' : World} {g lo : Nat} {c : Cu}
theorem Af.need (h : Af W3 g lo W c) (ok : Bool) (f : Int) : Calls Try.prog 22 #[.pointer (some ⟨g, 0, none⟩), .bool ok, .int .i64 f] W fun en w' => en = .returned (.tuple #[]) ∧ Af W3 g lo w' (c.need ok f) :=
  (p_need h.cur ok f).mono fun en w' ⟨e, q, u⟩ => ⟨e, h.k.trans (UpdS.of_upd u rfl), q⟩
theorem Af.fin (h : Af W3 g lo W c) : Calls Try.prog 27 #[.pointer (some ⟨g, 0, none⟩)] W fun en w' => en = .returned (.tuple #[]) ∧ Af W3 g lo w' c.fin :=
  (p_end h.cur).mono fun en w' ⟨e, q, u⟩ => ⟨e, h.k.trans (UpdS.of_upd u rfl), q⟩
theorem Af.below (h : Af W3 g lo W c) (hb : Below W.heap.size W W') : Af W3 g lo W' c := ⟨h.k.trans ⟨hb.os, hb.tape, hb.output, Kept.of_below hb _⟩, h.cur.below hb⟩
end
theorem within_any (e : Int) (w : World) : Calls Try.prog 26 #[.int .i64 e] w fun en w' => en = .returned (.int .i64 (within e)) ∧ Below w.heap.size w w' := by
  refine (files_within.calls e (within e) w (by unfold files_within.f within; split <;> rfl)).mono ?_
  rintro en w' ⟨rfl, hd⟩
  exact ⟨rfl, hd.below⟩
theorem run_alloc_rule (ev : Operand → Value) (o : Oper) (ho : o.op = .alloc 51) (W : World) : (execOp ev o).run Try.prog W = .ok (.value (.pointer (some ⟨W.heap.size, 0, none⟩))) (W.alloc (.cells #[Value.nilFunc, Value.nilFunc] 51 (0, 0))) := by
  unfold execOp
  rw [ho]
  kernel_rfl
theorem ev_rule {ops : Array Oper} {rest : List Oper} {o : Oper} {a : Act} {w : World} {Q : Exit → Act → World → Prop} (ho : o.op = .alloc 51) (hgd : o.guard = none)
    (h : ∀ g w1, g = w.heap.size → w1.heap[g]? = some (.cells #[Value.nilFunc, Value.nilFunc] 51 (0, 0)) → Below w.heap.size w w1 → wpList Try.prog ops Q rest (a.put o.dst (.pointer (some ⟨g, 0, none⟩))) w1) : wpList Try.prog ops Q (o :: rest) a w :=
  Kd.event_run hgd (run_alloc_rule a.eval o ho w) (h _ _ rfl (blk_new w _) (below_alloc (Below.refl _ _) _))
theorem funcs_one {a b : Fn} {x y : Array Value} : (#[Value.func a #[] x, .func b #[] y] : Array Value).all (·.oneCell') = true := by simp [Value.oneCell']
theorem bytesV_len {c : Cu} (h : c.good) (n : Int) : (c.bytesV n).length ≤ 1000000 := by
  have := h.2.1
  unfold Cu.bytesV
  split
  · simp; omega
  · simp
structure Pr (w0 : World) (gr sb br : Nat) (f1 f2 : Value) (W1 : World) : Prop where
  b : Below w0.heap.size w0 W1
  res : W1.heap[gr]? = some (.cells zeroC 30 (0, 0))
  sm : SumAt W1 sb 0
  rl : W1.heap[br]? = some (.cells #[f1, f2] 51 (0, 0))
  h : w0.heap.size ≤ gr ∧ gr < sb ∧ sb < br
theorem Pr.mk' {w0 w1 x1 w2 w3 : World} {gr sb br : Nat} {f1 f2 : Value} (hg : gr = w0.heap.size) (h1 : w1.heap[gr]? = some (.cells zeroC 30 (0, 0))) (h2 : Below w0.heap.size w0 w1) (hs : w1.heap.size ≤ sb) (hm : SumAt x1 sb 0) (hb : Below w1.heap.size w1 x1) (g2 : br = x1.heap.size) (b2 : Below x1.heap.size x1 w2) (h3 : w3.heap[br]? = some (.cells #[f1, f2] 51 (0, 0))) (h4 : Up1 br w2 w3) : Pr w0 gr sb br f1 f2 w3 := by
  have k := b2.trans (h4.below (by omega) b2.size)
  exact ⟨h2.trans ((hb.trans (k.mono hb.size)).mono h2.size), blk_below (blk_below h1 hb) k, blk_below hm k, h3, ⟨by omega, by have := blk_lt h1; omega, by have := blk_lt hm; omega⟩⟩
structure Lts (w0 W1 w : World) (gr sb br g lo gb gm : Nat) : Prop where
  lay : Lay (w.heap.size + 2) gb gm sb (w.heap.size + 1) lo gb
  lt : gb < w.heap.size ∧ gm < w.heap.size ∧ sb < w.heap.size
  b1 : Below W1.heap.size W1 w
  od : gr < sb ∧ sb < br ∧ br < W1.heap.size ∧ W1.heap.size ≤ g ∧ g < lo ∧ lo ≤ gb ∧ gb < gm
theorem lts_of {w0 W1 x6 x7 x8 x9 : World} {gr sb br g gb gm : Nat} {f1 f2 : Value} {c3 c' : Cu} {cx : Array Value} (h : Pr w0 gr sb br f1 f2 W1) (hn : Nw2 W1 g x6 c3) (q1 : x6.heap.size ≤ gb) (hp : PAt x6.heap.size gb x7 gb c') (q3 : Below x6.heap.size x6 x7) (m1 : gm = x7.heap.size) (m3 : Below x7.heap.size x7 x8) (m2 : x8.heap[gm]? = some (.cells cx 30 (0, 0))) (f8 : Below x8.heap.size x8 x9) : Lts w0 W1 x9 gr sb br g x6.heap.size gb gm := by
  have e1 := blk_lt h.rl
  have e2 : g < x6.heap.size := by obtain ⟨lo, p, _⟩ := hn.cur; exact p.1.lt
  have e3 := hn.gl
  have e4 := hp.1.lt
  have e5 := blk_lt m2
  have e6 := h.h
  have e7 := f8.size
  have e8 := m3.size
  have e9 := q3.size
  exact ⟨⟨by omega, by omega, by omega, Nat.le_refl _⟩, by omega, hn.b.trans ((q3.trans ((m3.trans (f8.mono e8)).mono e9)).mono hn.b.size), by omega⟩
theorem within_ne {e : Int} (h : within e = 0) : e = 0 := by
  unfold within at h
  split at h <;> omega
theorem need_ok' {c : Cu} {ok : Bool} {f : Int} (hf : f = 0 → ok = true) (h : (c.need ok f).e = 0) : c.e = 0 ∧ ok = true ∧ c.need ok f = c := by
  by_cases h0 : f = 0
  · have := hf h0
    subst this
    rw [need_true] at h ⊢
    exact ⟨h, rfl, rfl⟩
  · exact need_ok h0 h
structure Aft (w0 W3 : World) (gr g gm D lo : Nat) (c : Cu) (cx : Array Value) (m : Msg) : Prop where
  b : Below w0.heap.size w0 W3
  af : Af W3 g lo W3 c
  res : W3.heap[gr]? = some (.cells zeroC 30 (0, 0))
  mg : W3.heap[gm]? = some (.cells cx 30 (0, 0))
  is : ∀ W', Kept W3 W' (fun k => k = g ∨ k = gr ∨ k = D) → IsMsg W' cx m
  df : W3.heap[D]? = some (.deferred (some []))
  h : w0.heap.size ≤ g ∧ w0.heap.size ≤ gr ∧ w0.heap.size ≤ D
  ne : gr ≠ g ∧ gm ≠ g ∧ D ≠ g ∧ D ≠ gr
theorem aft_of {w0 W1 x6 x8 x9 W0 W3 : World} {gr sb br g gb gm l : Nat} {f1 f2 v : Value} {c3 cb : Cu} {code s : Int} {rec : Loop} {os : List S43} {raws : List RawR} (hp : Pr w0 gr sb br f1 f2 W1) (hn : Nw2 W1 g x8 c3) (f8 : Below x8.heap.size x8 x9) (T : Lts w0 W1 x9 gr sb br g x6.heap.size gb gm) (hb : Below x9.heap.size x9 W0) (hz : W0.heap.size = x9.heap.size + 2) (hl : l = x9.heap.size + 1) (h : LS W0 gb gm sb l x6.heap.size gb code rec W3 cb s os raws v) (hD : W3.heap[x9.heap.size]? = some (.deferred (some []))) (hc : 0 ≤ code ∧ code < 256) :
    ∃ lo cx, Aft w0 W3 gr g gm x9.heap.size lo c3 cx { zeroM with code := code, recs := os } := by
  obtain ⟨lo, pc, hlo⟩ := hn.cur
  have o := T.od
  have t := T.lt
  have r := hp.h
  have z := hp.b.size
  have gl := hn.gl
  obtain ⟨cx, m1, m2⟩ := h.close (by rw [hz, hl]; exact T.lay) hc
  have kk := h.up.kept
  refine ⟨lo, cx, ?_, ⟨⟨rfl, rfl, rfl, Kept.refl _ _⟩, ?_⟩, ?_, m1, fun W' hk => m2 W' (hk.mono fun j hj => by omega), hD, ⟨by omega, by omega, by omega⟩, ⟨by omega, by omega, by omega, by omega⟩⟩
  · refine (hp.b.trans ((T.b1.trans (hb.mono T.b1.size)).mono z)).trans (h.up.below (fun k e => by omega) (by omega))
  · exact ((pc.below f8).below hb).on kk (fun k e => by omega) (by omega)
  · exact blk_kept (blk_below (blk_below hp.res T.b1) hb) kk (by omega)
theorem Aft.fin {w0 W3 W W' : World} {gr g gm D lo : Nat} {c c' : Cu} {cx cy : Array Value} {m : Msg} (h : Aft w0 W3 gr g gm D lo c cx m) (a : Af W3 g lo W c') (u : Up1 gr W W') (h1 : W'.heap[gr]? = some (.cells cy 30 (0, 0))) :
    W'.heap[D]? = some (.deferred (some [])) ∧ (W'.putObj D (.deferred none)).heap[gr]? = some (.cells cy 30 (0, 0)) ∧ Below w0.heap.size w0 (W'.putObj D (.deferred none)) ∧ Kept W3 (W'.putObj D (.deferred none)) (fun k => k = g ∨ k = gr ∨ k = D) := by
  have n := h.ne
  have hh := h.h
  have k0 : Kept W' (W'.putObj D (.deferred none)) (fun k => k = D) := ⟨by simp, fun i _ hn => World.putObj_heap_other hn⟩
  have k1 : Kept W3 W (fun k => k = g ∨ k = gr ∨ k = D) := a.k.kept.mono fun j hj => .inl hj
  have k2 := (k1.then_ u.kept fun j hj => .inl (.inr (.inl hj))).then_ k0 fun j hj => .inl (.inr (.inr hj))
  refine ⟨blk_kept (blk_kept h.df a.k.kept (by omega)) u.kept (by omega), blk_kept h1 k0 (by omega), ?_, k2⟩
  have q : Below w0.heap.size W3 (W'.putObj D (.deferred none)) := ⟨u.os.trans a.k.os, u.tape.trans a.k.tape, u.output.trans a.k.output, k2.1, fun k hk => k2.2 k (by have := h.b.size; omega) (by omega)⟩
  exact h.b.trans q
theorem parse_t0 {A : Option Addr} {c : Nat} {l : List Int} {w0 : World} (hr : Kd.C (Kd.int .u8) w0 A l.length l) (hc : l.length ≤ c) (hs : l.length ≤ 1000000) (hb : isBytes l) :
    Calls Try.prog 12 #[.int .i64 0, .int .u8 20, .slice A l.length c] w0 fun en w' => ∃ cx, en = .returned (.tuple #[.agg cx, .int .i64 (outc 20 (body rd0 may0 l)).2]) ∧ IsMsg w' cx (outc 20 (body rd0 may0 l)).1 ∧ Below w0.heap.size w0 w' := by
  have HR := Aside0.mk hr
  have HC := Aside0.mk hc
  have HS := Aside0.mk hs
  have HBB := Aside0.mk hb
  clear hr hc hs hb
  refine (callsIn_wide (n := 7)).1 (callsIn_of_wp_marks Try.func12 rfl trivial (wpIn_wide.2 ?_) rfl)
  simp only [Try.ntmps12, List.size_toArray, List.length_cons, List.length_nil, Nat.reduceAdd, Nat.reduceSub, Array.replicate_succ, Array.replicate_zero, List.push_toArray, List.append_toArray, List.nil_append, List.cons_append]
  go_upto_region 3 with (first | ((with_reducible refine gate_dst (N := 6) rfl ?_); refine ev_alloc rfl rfl ?_; intro gr w1 hg_ h1_ h2_; have HG := Aside0.mk hg_; have H1 := Aside0.mk h1_; have H2 := Aside0.mk h2_; clear hg_ h1_ h2_))
  go_upto_region 4 with (first | (go_at_call 19; (with_reducible refine (rules_0 _).mono ?_); rintro en x1 ⟨sb, rfl, a1_, a2_, a3_⟩; have S1 := Aside0.mk a1_; have S2 := Aside0.mk a2_; have S3 := Aside0.mk a3_; clear a1_ a2_ a3_) | ((with_reducible refine gate_dst (N := 8) rfl ?_); refine ev_rule rfl rfl ?_; intro br w2 hg_ h1_ h2_; have R1 := Aside0.mk hg_; have R2 := Aside0.mk h1_; have R3 := Aside0.mk h2_; clear hg_ h1_ h2_) | ((with_reducible refine gate_op (u := .store 51 (.tmp 8) (.tmp 27)) rfl ?_); refine Same.wpList_store_row 51 (.tmp 8) (.tmp 27) rfl rfl rfl rfl R2.out rfl (by kernel_rfl) funcs_one ?_; intro W1 h3_ h4_; have HPR := Aside0.mk (Pr.mk' HG.out H1.out H2.out S1.out S2.out S3.out R1.out R3.out h3_ h4_); clear h3_ h4_ HG H1 H2 S1 S2 S3 R1 R2 R3))
  go_upto_region 6 with (fail)
  go_upto_region 7 with (first | (go_at_call 20; (with_reducible refine (p_new A c l _ (Kd.C_below HR.out HPR.out.b) HC.out HS.out HBB.out).mono ?_); rintro en x2 ⟨g, rfl, q1_, q2_, q3_, q4_⟩; have HN := Aside0.mk (show Nw2 W1 g x2 (cu l) from ⟨q3_, ⟨_, q2_, Nat.le_refl _⟩, q1_⟩); clear q1_ q2_ q3_ q4_))
  obtain ⟨n, en_⟩ : ∃ z, z = (cu l).byteV := ⟨_, rfl⟩
  have EN := Aside0.mk en_
  obtain ⟨l0, h0⟩ := Cu.byteV_bd (Nw2.good HN.out)
  rw [← en_] at l0 h0
  clear en_
  go_upto_region 8 with (first | (go_at_call 21; (with_reducible refine (Nw2.byte HN.out).mono ?_); rintro en x3 ⟨rfl, hp_⟩; rw [← EN.out]; obtain ⟨c1, ec_⟩ : ∃ z, z = (cu l).byteS := ⟨_, rfl⟩; rw [← ec_] at hp_; have Ec1 := Aside0.mk ec_; clear ec_; have n0_ := Aside0.mk hp_; clear HN hp_; have HN := n0_; clear n0_))
  have kf : World.cell? _ ⟨br, 0, none⟩ = some (Value.func (.func 36) #[] #[]) := blk_cell (blk_below HPR.out.rl HN.out.b) 0
  go_upto_region 9 with (first | (go_at_call 36; (with_reducible refine (may0_any l0 h0 _).mono ?_); rintro en x4 ⟨rfl, hb_⟩; have n0_ := Aside0.mk (HN.out.below hb_); clear HN hb_ kf; have HN := n0_; clear n0_) | (go_at_call 22; (with_reducible refine (Nw2.need HN.out (may0 n) 5).mono ?_); rintro en x5 ⟨rfl, hp_⟩; obtain ⟨c2, ec_⟩ : ∃ z, z = c1.need (may0 n) 5 := ⟨_, rfl⟩; rw [← ec_] at hp_; have Ec2 := Aside0.mk ec_; clear ec_; have n0_ := Aside0.mk hp_; clear HN hp_; have HN := n0_; clear n0_))
  have HG2 := Aside0.mk (Nw2.good HN.out)
  go_upto_region 10 with (first | (go_at_call 23; (with_reducible refine (Nw2.bytes HN.out n).mono ?_); rintro en x6 ⟨A5, n5, rfl, hz_, hr_, hp_⟩; obtain ⟨c3, ec_⟩ : ∃ z, z = c2.bytesS n := ⟨_, rfl⟩; rw [← ec_] at hp_; have Ec3 := Aside0.mk ec_; clear ec_; have RZ := Aside0.mk hz_; have RR := Aside0.mk hr_; have n0_ := Aside0.mk hp_; clear HN hp_ hz_ hr_; have HN := n0_; clear n0_) | (go_at_call 20; (with_reducible refine (p_new A5 n5 (c2.bytesV n) _ RR.out RZ.out (bytesV_len HG2.out n) (Cu.bytes_bytesV HG2.out n)).mono ?_); rintro en x7 ⟨gb, rfl, q1_, q2_, q3_, q4_⟩; have B1 := Aside0.mk q1_; have B2 := Aside0.mk q2_; have B3 := Aside0.mk q3_; have n0_ := Aside0.mk (HN.out.below q3_); have HN6 := HN; clear HN q1_ q2_ q3_ q4_; have HN := n0_; clear n0_))
  go_upto_region 11 with (first | ((with_reducible refine gate_dst (N := 48) rfl ?_); refine ev_build (codeC 20) rfl (by go_simp; first | rfl | done) ?_; intro cx hcx_; subst hcx_) | ((with_reducible refine gate_dst (N := 13) rfl ?_); refine ev_var (y := .tmp 48) rfl rfl rfl rfl rfl (codeC_is (code := 20) (by decide) w0) rfl rfl ?_; intro gm x8 hg_ h1_ hb_; have M1 := Aside0.mk hg_; have M2 := Aside0.mk h1_; have M3 := Aside0.mk hb_; have n0_ := Aside0.mk (HN.out.below hb_); clear HN hg_ h1_ hb_; have HN := n0_; clear n0_))
  have kf : World.cell? _ ⟨br, 1, none⟩ = some (Value.func (.func 34) #[] #[.pointer (some ⟨sb, 0, none⟩)]) := blk_cell (blk_below HPR.out.rl HN.out.b) 1
  go_wp2_with (first | (go_at_call 24; (with_reducible refine (full_mk gb 34 #[.pointer (some ⟨sb, 0, none⟩)] _).mono ?_); rintro en x9 ⟨b2, b3, rfl, a1_, a2_, a3_, a4_, a5_, a6_, a7_, a8_⟩; have F1 := Aside0.mk a1_; have F2 := Aside0.mk a2_; have F3 := Aside0.mk a3_; have F4 := Aside0.mk a4_; have F5 := Aside0.mk a5_; have F6 := Aside0.mk a6_; have F7 := Aside0.mk a7_; have F8 := Aside0.mk a8_; clear a1_ a2_ a3_ a4_ a5_ a6_ a7_ a8_ kf))
  have LT := Aside0.mk (lts_of HPR.out HN6.out B1.out B2.out B3.out M1.out M3.out M2.out F8.out)
  refine range_law (rd := rd0) (q := 14) (gb := gb) (gm := gm) (sb := sb) (lo := _) (hi := gb) (N := (c2.bytesV n).length) (code := 20) (c0 := cu (c2.bytesV n)) (lb := #[.pointer (some ⟨b2, 0, none⟩), .pointer (some ⟨b3, 0, none⟩)]) rfl LT.out.lay LT.out.lt ((B2.out.below M3.out).below F8.out) (blk_below HPR.out.sm (LT.out.b1)) (blk_below M2.out F8.out) (Nat.le_refl _) ?hit ?assign ?body ?done
  case hit =>
    intro W0 rec hb_ hz_
    have o_ := LT.out.od
    have m_ := blk_lt M2.out
    have f_ := F1.out
    have g_ := F2.out
    have j_ := F3.out
    have k_ := F4.out
    exact iter0 (by rw [hz_]; exact LT.out.lay) ⟨(hb_.cell (p := ⟨b2, 0, none⟩) F3.out).trans F5.out, (hb_.cell (p := ⟨b3, 0, none⟩) F4.out).trans F6.out, by omega, by omega⟩
  case assign =>
    intro l_ r_ W_ K_ hK_
    simp only [List.setIfInBounds_toArray, List.set_cons_zero, List.set_cons_succ] at hK_ ⊢
    gi_wp2
    exact hK_ _ _ rfl (blk_new _ _) (below_alloc (Below.refl _ _) _)
  case body =>
    intro l_ bx_ W0 rec_ W_ c_ s_ os_ raws_ v_ r_ x_ L_ hLS_ hg_ hx_ hb_ hk_
    simp only [List.setIfInBounds_toArray, List.set_cons_zero, List.set_cons_succ]
    obtain ⟨A9, n9, rfl, _, _⟩ := Kd.R_reads hLS_.row
    have k15 := hLS_.at_list.1
    have f15 := hLS_.at_list.2
    have HL_ := Aside0.mk hLS_
    have LL_ := Aside0.mk L_
    have HG_ := Aside0.mk hg_
    have HX_ := Aside0.mk hx_
    have HB_ := Aside0.mk hb_
    have HK_ := Aside0.mk (show W_.heap[bx_]? = some (.cells #[.int .u16 r_.f0, .int .u16 r_.f1, .int .u16 r_.f2, .slice r_.A r_.n r_.c] 43 (0, 0)) from hk_)
    clear hLS_ L_ hg_ hx_ hb_ hk_
    gi_wp2_with (first | ((with_reducible refine gateIn_dst (N := 56) rfl ?_); refine loadIn_row rfl 43 (.tmp 14) rfl bx_ rfl 43 _ (0, 0) _ HK_.out Try.underlying43 rfl (rec_info rfl) ?_) | ((with_reducible refine gateIn_dst (N := 58) rfl ?_); gi_at_builtin; refine R_append_in kRawR (w0 := W_) (W := W_) W0.heap.size rfl (.tmp 55) (.tmp 57) 27 43 (.agg recZ) 32 rfl Try.underlying27 (by kernel_rfl) rfl (by decide) (by decide) (.slice A9 raws_.length n9) raws_ r_ [Value.int .u16 r_.f0, .int .u16 r_.f1, .int .u16 r_.f2, .slice r_.A r_.n r_.c] (fun k => W0.heap.size ≤ k) (fun _ => False) rfl rfl rfl (fun _ h => h.elim) (fun k hk => Nat.le_trans HL_.out.up.kept.1 hk) HL_.out.row ⟨rfl, rfl, rfl, Nat.le_refl _, fun _ _ => rfl⟩ HL_.out.up.kept.1 (by have := HL_.out.few; omega) ?_; intro v1 y3 r1_ hb1 g1_ hv1_; obtain ⟨A8, n8, e8, _, _⟩ := Kd.R_reads r1_; obtain ⟨N8, hN8⟩ : ∃ z, z = (raws_ ++ [r_]).length := ⟨_, rfl⟩; rw [← hN8] at e8; subst e8; clear hN8; have R1 := Aside0.mk r1_; have G1 := Aside0.mk g1_; have V1 := Aside0.mk hv1_; have kl := (HL_.out.at_list' LL_.out g1_).1; have fl := (HL_.out.at_list' LL_.out g1_).2; clear r1_ g1_ hv1_ hb1 k15 f15))
    exact ⟨_, HL_.out.push LL_.out HG_.out HX_.out HB_.out R1.out G1.out V1.out⟩
  case done =>
    intro W0 W3 l_ rec_ cb s_ os raws v hb_ hz_ hl_ hLS_ hD_ hcb_ hos_
    obtain ⟨lo, cx, ha_⟩ := aft_of HPR.out HN.out F8.out LT.out hb_ hz_ hl_ hLS_ hD_ (by decide)
    have HA := Aside0.mk ha_
    have HF := Aside0.mk ha_.af
    have HCB := Aside0.mk hLS_.cur
    have HE1 := Aside0.mk hcb_
    have HE2 := Aside0.mk hos_
    clear hb_ hz_ hl_ hLS_ hD_ ha_ hcb_ hos_ LT HPR HN HN6 F1 F2 F3 F4 F5 F6 F7 F8 M1 M2 M3 B1 B2 B3 RZ RR
    obtain ⟨D, hd_⟩ : ∃ z, z = x9.heap.size := ⟨_, rfl⟩
    rw [← hd_] at HA ⊢
    clear hd_
    go_upto_region 15 with (first | (go_at_call 25; (with_reducible refine (p_err HCB.out).mono ?_); rintro en y1 ⟨rfl, rfl⟩) | (go_at_call 26; (with_reducible refine (within_any cb.e _).mono ?_); rintro en y2 ⟨rfl, hb_⟩; have n0_ := Aside0.mk (HF.out.below hb_); clear HF hb_; have HF := n0_; clear n0_) | (go_at_call 22; (with_reducible refine (Af.need HF.out (cb.e == 0) (within cb.e)).mono ?_); rintro en y3 ⟨rfl, hp_⟩; obtain ⟨c4, ec_⟩ : ∃ z, z = c3.need (cb.e == 0) (within cb.e) := ⟨_, rfl⟩; rw [← ec_] at hp_; have Ec4 := Aside0.mk ec_; clear ec_; have n0_ := Aside0.mk hp_; clear HF hp_; have HF := n0_; clear n0_))
    go_upto_region 16 with (first | (go_at_call 27; (with_reducible refine (Af.fin HF.out).mono ?_); rintro en y4 ⟨rfl, hp_⟩; obtain ⟨c5, ec_⟩ : ∃ z, z = c4.fin := ⟨_, rfl⟩; rw [← ec_] at hp_; have Ec5 := Aside0.mk ec_; clear ec_; have n0_ := Aside0.mk hp_; clear HF hp_; have HF := n0_; clear n0_))
    go_upto_region 17 with (first | (go_at_call 25; (with_reducible refine (p_err HF.out.cur).mono ?_); rintro en y5 ⟨rfl, rfl⟩))
    have EB : Aside0 (body rd0 may0 l = (c4, (partsG rd0 (c2.bytesV n).length 0 (cu (c2.bytesV n))).2)) := ⟨by simp only [body]; rw [← EN.out, ← Ec1.out, ← Ec2.out, ← Ec3.out, ← HE1.out, ← Ec4.out]⟩
    by_cases h9 : c5.e = 0
    · have g1 : (c5.e != 0) = false := by rw [h9]; rfl
      have h4_ : c4.e = 0 := (fin_ok (by rw [← Ec5.out]; exact h9)).1
      have h5_ : cb.e = 0 := by
        obtain ⟨_, e_, _⟩ := need_ok' (c := c3) (ok := (cb.e == 0)) (f := within cb.e) (fun e_ => by rw [within_ne e_]; rfl) (by rw [← Ec4.out]; exact h4_)
        simpa using e_
      have EX : Aside0 (outc 20 (body rd0 may0 l) = ({ zeroM with code := 20, recs := os }, 0)) := ⟨by simp only [outc]; rw [EB.out]; simp only []; rw [← Ec5.out, if_neg (fun h => h h9), HE2.out h5_]⟩
      clear h4_ h5_ h9
      have SZ := Aside0.mk (IsMsg.size (HA.out.is _ (Kept.refl _ _)))
      have ON := Aside0.mk (IsMsg.one (HA.out.is _ (Kept.refl _ _)))
      go_wp2_with (first | ((with_reducible refine gate_dst (N := 76) rfl ?_); refine wpList_load_row rfl 30 (.tmp 13) rfl gm rfl 30 cx (0, 0) _ (blk_kept HA.out.mg HF.out.k.kept HA.out.ne.2.1) Try.underlying30 rfl (msg_info SZ.out) ?_) | ((with_reducible refine gate_op (u := .store 30 (.tmp 6) (.tmp 76)) rfl ?_); refine Same.wpList_store_row 30 (.tmp 6) (.tmp 76) rfl rfl rfl rfl (blk_kept HA.out.res HF.out.k.kept HA.out.ne.1) SZ.out.symm (msg_info SZ.out) ON.out ?_; intro y9 h3_ h4_; have HZ := Aside0.mk (Aft.fin HA.out HF.out h4_ h3_); clear h3_ h4_))
      refine ⟨by simp, .inl ⟨_, _, rfl, run_takeDeferred HZ.out.1, ?_⟩⟩
      refine ⟨_, results_ct rfl _ _ gr 30 cx (0, 0) _ rfl HZ.out.2.1 Try.underlying30 rfl (msg_info SZ.out), ?_⟩
      rw [EX.out]
      exact ⟨cx, rfl, HA.out.is _ HZ.out.2.2.2, HZ.out.2.2.1⟩
    · have g1 : (c5.e != 0) = true := by simpa using h9
      have EX : Aside0 (outc 20 (body rd0 may0 l) = (zeroM, c5.e)) := ⟨by simp only [outc]; rw [EB.out]; simp only []; rw [← Ec5.out, if_pos h9]⟩
      clear h9
      go_wp2_with (first | ((with_reducible refine gate_dst (N := 74) rfl ?_); refine ev_build (zeroC) rfl (by go_simp; first | rfl | done) ?_; intro cz hcz_; have CZ := Aside0.mk hcz_; clear hcz_) | ((with_reducible refine gate_op (u := .store 30 (.tmp 6) (.tmp 74)) rfl ?_); refine Same.wpList_store_row 30 (.tmp 6) (.tmp 74) rfl rfl rfl rfl (blk_kept HA.out.res HF.out.k.kept HA.out.ne.1) (by rw [CZ.out]) (msg_info (by rw [CZ.out]; rfl)) (by rw [CZ.out]; exact (zero_is w0).one) ?_; intro y9 h3_ h4_; have HZ := Aside0.mk (Aft.fin HA.out HF.out h4_ h3_); clear h3_ h4_))
      refine ⟨by simp, .inl ⟨_, _, rfl, run_takeDeferred HZ.out.1, ?_⟩⟩
      refine ⟨_, results_ct rfl _ _ gr 30 cz (0, 0) _ rfl HZ.out.2.1 Try.underlying30 rfl (msg_info (by rw [CZ.out]; rfl)), ?_⟩
      rw [EX.out]
      exact ⟨cz, rfl, by rw [CZ.out]; exact zero_is _, HZ.out.2.2.1⟩
theorem parse_t1 {A : Option Addr} {c : Nat} {l : List Int} {w0 : World} (hr : Kd.C (Kd.int .u8) w0 A l.length l) (hc : l.length ≤ c) (hs : l.length ≤ 1000000) (hb : isBytes l) :
    Calls Try.prog 12 #[.int .i64 1, .int .u8 20, .slice A l.length c] w0 fun en w' => ∃ cx, en = .returned (.tuple #[.agg cx, .int .i64 (outc 20 (body rd1 may1 l)).2]) ∧ IsMsg w' cx (outc 20 (body rd1 may1 l)).1 ∧ Below w0.heap.size w0 w' := by
  have HR := Aside0.mk hr
  have HC := Aside0.mk hc
  have HS := Aside0.mk hs
  have HBB := Aside0.mk hb
  clear hr hc hs hb
  refine (callsIn_wide (n := 7)).1 (callsIn_of_wp_marks Try.func12 rfl trivial (wpIn_wide.2 ?_) rfl)
  simp only [Try.ntmps12, List.size_toArray, List.length_cons, List.length_nil, Nat.reduceAdd, Nat.reduceSub, Array.replicate_succ, Array.replicate_zero, List.push_toArray, List.append_toArray, List.nil_append, List.cons_append]
  go_upto_region 3 with (first | ((with_reducible refine gate_dst (N := 6) rfl ?_); refine ev_alloc rfl rfl ?_; intro gr w1 hg_ h1_ h2_; have HG := Aside0.mk hg_; have H1 := Aside0.mk h1_; have H2 := Aside0.mk h2_; clear hg_ h1_ h2_))
  go_upto_region 4 with (first | (go_at_call 19; (with_reducible refine (rules_1 _).mono ?_); rintro en x1 ⟨sb, rfl, a1_, a2_, a3_⟩; have S1 := Aside0.mk a1_; have S2 := Aside0.mk a2_; have S3 := Aside0.mk a3_; clear a1_ a2_ a3_) | ((with_reducible refine gate_dst (N := 8) rfl ?_); refine ev_rule rfl rfl ?_; intro br w2 hg_ h1_ h2_; have R1 := Aside0.mk hg_; have R2 := Aside0.mk h1_; have R3 := Aside0.mk h2_; clear hg_ h1_ h2_) | ((with_reducible refine gate_op (u := .store 51 (.tmp 8) (.tmp 27)) rfl ?_); refine Same.wpList_store_row 51 (.tmp 8) (.tmp 27) rfl rfl rfl rfl R2.out rfl (by kernel_rfl) funcs_one ?_; intro W1 h3_ h4_; have HPR := Aside0.mk (Pr.mk' HG.out H1.out H2.out S1.out S2.out S3.out R1.out R3.out h3_ h4_); clear h3_ h4_ HG H1 H2 S1 S2 S3 R1 R2 R3))
  go_upto_region 6 with (fail)
  go_upto_region 7 with (first | (go_at_call 20; (with_reducible refine (p_new A c l _ (Kd.C_below HR.out HPR.out.b) HC.out HS.out HBB.out).mono ?_); rintro en x2 ⟨g, rfl, q1_, q2_, q3_, q4_⟩; have HN := Aside0.mk (show Nw2 W1 g x2 (cu l) from ⟨q3_, ⟨_, q2_, Nat.le_refl _⟩, q1_⟩); clear q1_ q2_ q3_ q4_))
  obtain ⟨n, en_⟩ : ∃ z, z = (cu l).byteV := ⟨_, rfl⟩
  have EN := Aside0.mk en_
  obtain ⟨l0, h0⟩ := Cu.byteV_bd (Nw2.good HN.out)
  rw [← en_] at l0 h0
  clear en_
  go_upto_region 8 with (first | (go_at_call 21; (with_reducible refine (Nw2.byte HN.out).mono ?_); rintro en x3 ⟨rfl, hp_⟩; rw [← EN.out]; obtain ⟨c1, ec_⟩ : ∃ z, z = (cu l).byteS := ⟨_, rfl⟩; rw [← ec_] at hp_; have Ec1 := Aside0.mk ec_; clear ec_; have n0_ := Aside0.mk hp_; clear HN hp_; have HN := n0_; clear n0_))
  have kf : World.cell? _ ⟨br, 0, none⟩ = some (Value.func (.func 37) #[] #[]) := blk_cell (blk_below HPR.out.rl HN.out.b) 0
  go_upto_region 9 with (first | (go_at_call 37; (with_reducible refine (may1_any l0 h0 _).mono ?_); rintro en x4 ⟨rfl, hb_⟩; have n0_ := Aside0.mk (HN.out.below hb_); clear HN hb_ kf; have HN := n0_; clear n0_) | (go_at_call 22; (with_reducible refine (Nw2.need HN.out (may1 n) 5).mono ?_); rintro en x5 ⟨rfl, hp_⟩; obtain ⟨c2, ec_⟩ : ∃ z, z = c1.need (may1 n) 5 := ⟨_, rfl⟩; rw [← ec_] at hp_; have Ec2 := Aside0.mk ec_; clear ec_; have n0_ := Aside0.mk hp_; clear HN hp_; have HN := n0_; clear n0_))
  have HG2 := Aside0.mk (Nw2.good HN.out)
  go_upto_region 10 with (first | (go_at_call 23; (with_reducible refine (Nw2.bytes HN.out n).mono ?_); rintro en x6 ⟨A5, n5, rfl, hz_, hr_, hp_⟩; obtain ⟨c3, ec_⟩ : ∃ z, z = c2.bytesS n := ⟨_, rfl⟩; rw [← ec_] at hp_; have Ec3 := Aside0.mk ec_; clear ec_; have RZ := Aside0.mk hz_; have RR := Aside0.mk hr_; have n0_ := Aside0.mk hp_; clear HN hp_ hz_ hr_; have HN := n0_; clear n0_) | (go_at_call 20; (with_reducible refine (p_new A5 n5 (c2.bytesV n) _ RR.out RZ.out (bytesV_len HG2.out n) (Cu.bytes_bytesV HG2.out n)).mono ?_); rintro en x7 ⟨gb, rfl, q1_, q2_, q3_, q4_⟩; have B1 := Aside0.mk q1_; have B2 := Aside0.mk q2_; have B3 := Aside0.mk q3_; have n0_ := Aside0.mk (HN.out.below q3_); have HN6 := HN; clear HN q1_ q2_ q3_ q4_; have HN := n0_; clear n0_))
  go_upto_region 11 with (first | ((with_reducible refine gate_dst (N := 48) rfl ?_); refine ev_build (codeC 20) rfl (by go_simp; first | rfl | done) ?_; intro cx hcx_; subst hcx_) | ((with_reducible refine gate_dst (N := 13) rfl ?_); refine ev_var (y := .tmp 48) rfl rfl rfl rfl rfl (codeC_is (code := 20) (by decide) w0) rfl rfl ?_; intro gm x8 hg_ h1_ hb_; have M1 := Aside0.mk hg_; have M2 := Aside0.mk h1_; have M3 := Aside0.mk hb_; have n0_ := Aside0.mk (HN.out.below hb_); clear HN hg_ h1_ hb_; have HN := n0_; clear n0_))
  have kf : World.cell? _ ⟨br, 1, none⟩ = some (Value.func (.func 38) #[] #[]) := blk_cell (blk_below HPR.out.rl HN.out.b) 1
  go_wp2_with (first | (go_at_call 24; (with_reducible refine (full_mk gb 38 #[] _).mono ?_); rintro en x9 ⟨b2, b3, rfl, a1_, a2_, a3_, a4_, a5_, a6_, a7_, a8_⟩; have F1 := Aside0.mk a1_; have F2 := Aside0.mk a2_; have F3 := Aside0.mk a3_; have F4 := Aside0.mk a4_; have F5 := Aside0.mk a5_; have F6 := Aside0.mk a6_; have F7 := Aside0.mk a7_; have F8 := Aside0.mk a8_; clear a1_ a2_ a3_ a4_ a5_ a6_ a7_ a8_ kf))
  have LT := Aside0.mk (lts_of HPR.out HN6.out B1.out B2.out B3.out M1.out M3.out M2.out F8.out)
  refine range_law (rd := rd1) (q := 14) (gb := gb) (gm := gm) (sb := sb) (lo := _) (hi := gb) (N := (c2.bytesV n).length) (code := 20) (c0 := cu (c2.bytesV n)) (lb := #[.pointer (some ⟨b2, 0, none⟩), .pointer (some ⟨b3, 0, none⟩)]) rfl LT.out.lay LT.out.lt ((B2.out.below M3.out).below F8.out) (blk_below HPR.out.sm (LT.out.b1)) (blk_below M2.out F8.out) (Nat.le_refl _) ?hit ?assign ?body ?done
  case hit =>
    intro W0 rec hb_ hz_
    have o_ := LT.out.od
    have m_ := blk_lt M2.out
    have f_ := F1.out
    have g_ := F2.out
    have j_ := F3.out
    have k_ := F4.out
    exact iter1 (by rw [hz_]; exact LT.out.lay) ⟨(hb_.cell (p := ⟨b2, 0, none⟩) F3.out).trans F5.out, (hb_.cell (p := ⟨b3, 0, none⟩) F4.out).trans F6.out, by omega, by omega⟩
  case assign =>
    intro l_ r_ W_ K_ hK_
    simp only [List.setIfInBounds_toArray, List.set_cons_zero, List.set_cons_succ] at hK_ ⊢
    gi_wp2
    exact hK_ _ _ rfl (blk_new _ _) (below_alloc (Below.refl _ _) _)
  case body =>
    intro l_ bx_ W0 rec_ W_ c_ s_ os_ raws_ v_ r_ x_ L_ hLS_ hg_ hx_ hb_ hk_
    simp only [List.setIfInBounds_toArray, List.set_cons_zero, List.set_cons_succ]
    obtain ⟨A9, n9, rfl, _, _⟩ := Kd.R_reads hLS_.row
    have k15 := hLS_.at_list.1
    have f15 := hLS_.at_list.2
    have HL_ := Aside0.mk hLS_
    have LL_ := Aside0.mk L_
    have HG_ := Aside0.mk hg_
    have HX_ := Aside0.mk hx_
    have HB_ := Aside0.mk hb_
    have HK_ := Aside0.mk (show W_.heap[bx_]? = some (.cells #[.int .u16 r_.f0, .int .u16 r_.f1, .int .u16 r_.f2, .slice r_.A r_.n r_.c] 43 (0, 0)) from hk_)
    clear hLS_ L_ hg_ hx_ hb_ hk_
    gi_wp2_with (first | ((with_reducible refine gateIn_dst (N := 56) rfl ?_); refine loadIn_row rfl 43 (.tmp 14) rfl bx_ rfl 43 _ (0, 0) _ HK_.out Try.underlying43 rfl (rec_info rfl) ?_) | ((with_reducible refine gateIn_dst (N := 58) rfl ?_); gi_at_builtin; refine R_append_in kRawR (w0 := W_) (W := W_) W0.heap.size rfl (.tmp 55) (.tmp 57) 27 43 (.agg recZ) 32 rfl Try.underlying27 (by kernel_rfl) rfl (by decide) (by decide) (.slice A9 raws_.length n9) raws_ r_ [Value.int .u16 r_.f0, .int .u16 r_.f1, .int .u16 r_.f2, .slice r_.A r_.n r_.c] (fun k => W0.heap.size ≤ k) (fun _ => False) rfl rfl rfl (fun _ h => h.elim) (fun k hk => Nat.le_trans HL_.out.up.kept.1 hk) HL_.out.row ⟨rfl, rfl, rfl, Nat.le_refl _, fun _ _ => rfl⟩ HL_.out.up.kept.1 (by have := HL_.out.few; omega) ?_; intro v1 y3 r1_ hb1 g1_ hv1_; obtain ⟨A8, n8, e8, _, _⟩ := Kd.R_reads r1_; obtain ⟨N8, hN8⟩ : ∃ z, z = (raws_ ++ [r_]).length := ⟨_, rfl⟩; rw [← hN8] at e8; subst e8; clear hN8; have R1 := Aside0.mk r1_; have G1 := Aside0.mk g1_; have V1 := Aside0.mk hv1_; have kl := (HL_.out.at_list' LL_.out g1_).1; have fl := (HL_.out.at_list' LL_.out g1_).2; clear r1_ g1_ hv1_ hb1 k15 f15))
    exact ⟨_, HL_.out.push LL_.out HG_.out HX_.out HB_.out R1.out G1.out V1.out⟩
  case done =>
    intro W0 W3 l_ rec_ cb s_ os raws v hb_ hz_ hl_ hLS_ hD_ hcb_ hos_
    obtain ⟨lo, cx, ha_⟩ := aft_of HPR.out HN.out F8.out LT.out hb_ hz_ hl_ hLS_ hD_ (by decide)
    have HA := Aside0.mk ha_
    have HF := Aside0.mk ha_.af
    have HCB := Aside0.mk hLS_.cur
    have HE1 := Aside0.mk hcb_
    have HE2 := Aside0.mk hos_
    clear hb_ hz_ hl_ hLS_ hD_ ha_ hcb_ hos_ LT HPR HN HN6 F1 F2 F3 F4 F5 F6 F7 F8 M1 M2 M3 B1 B2 B3 RZ RR
    obtain ⟨D, hd_⟩ : ∃ z, z = x9.heap.size := ⟨_, rfl⟩
    rw [← hd_] at HA ⊢
    clear hd_
    go_upto_region 15 with (first | (go_at_call 25; (with_reducible refine (p_err HCB.out).mono ?_); rintro en y1 ⟨rfl, rfl⟩) | (go_at_call 26; (with_reducible refine (within_any cb.e _).mono ?_); rintro en y2 ⟨rfl, hb_⟩; have n0_ := Aside0.mk (HF.out.below hb_); clear HF hb_; have HF := n0_; clear n0_) | (go_at_call 22; (with_reducible refine (Af.need HF.out (cb.e == 0) (within cb.e)).mono ?_); rintro en y3 ⟨rfl, hp_⟩; obtain ⟨c4, ec_⟩ : ∃ z, z = c3.need (cb.e == 0) (within cb.e) := ⟨_, rfl⟩; rw [← ec_] at hp_; have Ec4 := Aside0.mk ec_; clear ec_; have n0_ := Aside0.mk hp_; clear HF hp_; have HF := n0_; clear n0_))
    go_upto_region 16 with (first | (go_at_call 27; (with_reducible refine (Af.fin HF.out).mono ?_); rintro en y4 ⟨rfl, hp_⟩; obtain ⟨c5, ec_⟩ : ∃ z, z = c4.fin := ⟨_, rfl⟩; rw [← ec_] at hp_; have Ec5 := Aside0.mk ec_; clear ec_; have n0_ := Aside0.mk hp_; clear HF hp_; have HF := n0_; clear n0_))
    go_upto_region 17 with (first | (go_at_call 25; (with_reducible refine (p_err HF.out.cur).mono ?_); rintro en y5 ⟨rfl, rfl⟩))
    have EB : Aside0 (body rd1 may1 l = (c4, (partsG rd1 (c2.bytesV n).length 0 (cu (c2.bytesV n))).2)) := ⟨by simp only [body]; rw [← EN.out, ← Ec1.out, ← Ec2.out, ← Ec3.out, ← HE1.out, ← Ec4.out]⟩
    by_cases h9 : c5.e = 0
    · have g1 : (c5.e != 0) = false := by rw [h9]; rfl
      have h4_ : c4.e = 0 := (fin_ok (by rw [← Ec5.out]; exact h9)).1
      have h5_ : cb.e = 0 := by
        obtain ⟨_, e_, _⟩ := need_ok' (c := c3) (ok := (cb.e == 0)) (f := within cb.e) (fun e_ => by rw [within_ne e_]; rfl) (by rw [← Ec4.out]; exact h4_)
        simpa using e_
      have EX : Aside0 (outc 20 (body rd1 may1 l) = ({ zeroM with code := 20, recs := os }, 0)) := ⟨by simp only [outc]; rw [EB.out]; simp only []; rw [← Ec5.out, if_neg (fun h => h h9), HE2.out h5_]⟩
      clear h4_ h5_ h9
      have SZ := Aside0.mk (IsMsg.size (HA.out.is _ (Kept.refl _ _)))
      have ON := Aside0.mk (IsMsg.one (HA.out.is _ (Kept.refl _ _)))
      go_wp2_with (first | ((with_reducible refine gate_dst (N := 76) rfl ?_); refine wpList_load_row rfl 30 (.tmp 13) rfl gm rfl 30 cx (0, 0) _ (blk_kept HA.out.mg HF.out.k.kept HA.out.ne.2.1) Try.underlying30 rfl (msg_info SZ.out) ?_) | ((with_reducible refine gate_op (u := .store 30 (.tmp 6) (.tmp 76)) rfl ?_); refine Same.wpList_store_row 30 (.tmp 6) (.tmp 76) rfl rfl rfl rfl (blk_kept HA.out.res HF.out.k.kept HA.out.ne.1) SZ.out.symm (msg_info SZ.out) ON.out ?_; intro y9 h3_ h4_; have HZ := Aside0.mk (Aft.fin HA.out HF.out h4_ h3_); clear h3_ h4_))
      refine ⟨by simp, .inl ⟨_, _, rfl, run_takeDeferred HZ.out.1, ?_⟩⟩
      refine ⟨_, results_ct rfl _ _ gr 30 cx (0, 0) _ rfl HZ.out.2.1 Try.underlying30 rfl (msg_info SZ.out), ?_⟩
      rw [EX.out]
      exact ⟨cx, rfl, HA.out.is _ HZ.out.2.2.2, HZ.out.2.2.1⟩
    · have g1 : (c5.e != 0) = true := by simpa using h9
      have EX : Aside0 (outc 20 (body rd1 may1 l) = (zeroM, c5.e)) := ⟨by simp only [outc]; rw [EB.out]; simp only []; rw [← Ec5.out, if_pos h9]⟩
      clear h9
      go_wp2_with (first | ((with_reducible refine gate_dst (N := 74) rfl ?_); refine ev_build (zeroC) rfl (by go_simp; first | rfl | done) ?_; intro cz hcz_; have CZ := Aside0.mk hcz_; clear hcz_) | ((with_reducible refine gate_op (u := .store 30 (.tmp 6) (.tmp 74)) rfl ?_); refine Same.wpList_store_row 30 (.tmp 6) (.tmp 74) rfl rfl rfl rfl (blk_kept HA.out.res HF.out.k.kept HA.out.ne.1) (by rw [CZ.out]) (msg_info (by rw [CZ.out]; rfl)) (by rw [CZ.out]; exact (zero_is w0).one) ?_; intro y9 h3_ h4_; have HZ := Aside0.mk (Aft.fin HA.out HF.out h4_ h3_); clear h3_ h4_))
      refine ⟨by simp, .inl ⟨_, _, rfl, run_takeDeferred HZ.out.1, ?_⟩⟩
      refine ⟨_, results_ct rfl _ _ gr 30 cz (0, 0) _ rfl HZ.out.2.1 Try.underlying30 rfl (msg_info (by rw [CZ.out]; rfl)), ?_⟩
      rw [EX.out]
      exact ⟨cz, rfl, by rw [CZ.out]; exact zero_is _, HZ.out.2.2.1⟩
theorem parse_t2 {A : Option Addr} {c : Nat} {l : List Int} {w0 : World} (hr : Kd.C (Kd.int .u8) w0 A l.length l) (hc : l.length ≤ c) (hs : l.length ≤ 1000000) (hb : isBytes l) :
    Calls Try.prog 12 #[.int .i64 0, .int .u8 21, .slice A l.length c] w0 fun en w' => ∃ cx, en = .returned (.tuple #[.agg cx, .int .i64 (outc 21 (body rd2 may2 l)).2]) ∧ IsMsg w' cx (outc 21 (body rd2 may2 l)).1 ∧ Below w0.heap.size w0 w' := by
  have HR := Aside0.mk hr
  have HC := Aside0.mk hc
  have HS := Aside0.mk hs
  have HBB := Aside0.mk hb
  clear hr hc hs hb
  refine (callsIn_wide (n := 7)).1 (callsIn_of_wp_marks Try.func12 rfl trivial (wpIn_wide.2 ?_) rfl)
  simp only [Try.ntmps12, List.size_toArray, List.length_cons, List.length_nil, Nat.reduceAdd, Nat.reduceSub, Array.replicate_succ, Array.replicate_zero, List.push_toArray, List.append_toArray, List.nil_append, List.cons_append]
  go_upto_region 3 with (first | ((with_reducible refine gate_dst (N := 6) rfl ?_); refine ev_alloc rfl rfl ?_; intro gr w1 hg_ h1_ h2_; have HG := Aside0.mk hg_; have H1 := Aside0.mk h1_; have H2 := Aside0.mk h2_; clear hg_ h1_ h2_))
  go_upto_region 4 with (first | (go_at_call 19; (with_reducible refine (rules_20 _).mono ?_); rintro en x1 ⟨sb, rfl, a1_, a2_, a3_⟩; have S1 := Aside0.mk a1_; have S2 := Aside0.mk a2_; have S3 := Aside0.mk a3_; clear a1_ a2_ a3_) | ((with_reducible refine gate_dst (N := 8) rfl ?_); refine ev_rule rfl rfl ?_; intro br w2 hg_ h1_ h2_; have R1 := Aside0.mk hg_; have R2 := Aside0.mk h1_; have R3 := Aside0.mk h2_; clear hg_ h1_ h2_) | ((with_reducible refine gate_op (u := .store 51 (.tmp 8) (.tmp 27)) rfl ?_); refine Same.wpList_store_row 51 (.tmp 8) (.tmp 27) rfl rfl rfl rfl R2.out rfl (by kernel_rfl) funcs_one ?_; intro W1 h3_ h4_; have HPR := Aside0.mk (Pr.mk' HG.out H1.out H2.out S1.out S2.out S3.out R1.out R3.out h3_ h4_); clear h3_ h4_ HG H1 H2 S1 S2 S3 R1 R2 R3))
  go_upto_region 6 with (fail)
  go_upto_region 7 with (first | (go_at_call 20; (with_reducible refine (p_new A c l _ (Kd.C_below HR.out HPR.out.b) HC.out HS.out HBB.out).mono ?_); rintro en x2 ⟨g, rfl, q1_, q2_, q3_, q4_⟩; have HN := Aside0.mk (show Nw2 W1 g x2 (cu l) from ⟨q3_, ⟨_, q2_, Nat.le_refl _⟩, q1_⟩); clear q1_ q2_ q3_ q4_))
  obtain ⟨n, en_⟩ : ∃ z, z = (cu l).byteV := ⟨_, rfl⟩
  have EN := Aside0.mk en_
  obtain ⟨l0, h0⟩ := Cu.byteV_bd (Nw2.good HN.out)
  rw [← en_] at l0 h0
  clear en_
  go_upto_region 8 with (first | (go_at_call 21; (with_reducible refine (Nw2.byte HN.out).mono ?_); rintro en x3 ⟨rfl, hp_⟩; rw [← EN.out]; obtain ⟨c1, ec_⟩ : ∃ z, z = (cu l).byteS := ⟨_, rfl⟩; rw [← ec_] at hp_; have Ec1 := Aside0.mk ec_; clear ec_; have n0_ := Aside0.mk hp_; clear HN hp_; have HN := n0_; clear n0_))
  have kf : World.cell? _ ⟨br, 0, none⟩ = some (Value.func (.func 39) #[] #[]) := blk_cell (blk_below HPR.out.rl HN.out.b) 0
  go_upto_region 9 with (first | (go_at_call 39; (with_reducible refine (may2_any l0 h0 _).mono ?_); rintro en x4 ⟨rfl, hb_⟩; have n0_ := Aside0.mk (HN.out.below hb_); clear HN hb_ kf; have HN := n0_; clear n0_) | (go_at_call 22; (with_reducible refine (Nw2.need HN.out (may2 n) 5).mono ?_); rintro en x5 ⟨rfl, hp_⟩; obtain ⟨c2, ec_⟩ : ∃ z, z = c1.need (may2 n) 5 := ⟨_, rfl⟩; rw [← ec_] at hp_; have Ec2 := Aside0.mk ec_; clear ec_; have n0_ := Aside0.mk hp_; clear HN hp_; have HN := n0_; clear n0_))
  have HG2 := Aside0.mk (Nw2.good HN.out)
  go_upto_region 10 with (first | (go_at_call 23; (with_reducible refine (Nw2.bytes HN.out n).mono ?_); rintro en x6 ⟨A5, n5, rfl, hz_, hr_, hp_⟩; obtain ⟨c3, ec_⟩ : ∃ z, z = c2.bytesS n := ⟨_, rfl⟩; rw [← ec_] at hp_; have Ec3 := Aside0.mk ec_; clear ec_; have RZ := Aside0.mk hz_; have RR := Aside0.mk hr_; have n0_ := Aside0.mk hp_; clear HN hp_ hz_ hr_; have HN := n0_; clear n0_) | (go_at_call 20; (with_reducible refine (p_new A5 n5 (c2.bytesV n) _ RR.out RZ.out (bytesV_len HG2.out n) (Cu.bytes_bytesV HG2.out n)).mono ?_); rintro en x7 ⟨gb, rfl, q1_, q2_, q3_, q4_⟩; have B1 := Aside0.mk q1_; have B2 := Aside0.mk q2_; have B3 := Aside0.mk q3_; have n0_ := Aside0.mk (HN.out.below q3_); have HN6 := HN; clear HN q1_ q2_ q3_ q4_; have HN := n0_; clear n0_))
  go_upto_region 11 with (first | ((with_reducible refine gate_dst (N := 48) rfl ?_); refine ev_build (codeC 21) rfl (by go_simp; first | rfl | done) ?_; intro cx hcx_; subst hcx_) | ((with_reducible refine gate_dst (N := 13) rfl ?_); refine ev_var (y := .tmp 48) rfl rfl rfl rfl rfl (codeC_is (code := 21) (by decide) w0) rfl rfl ?_; intro gm x8 hg_ h1_ hb_; have M1 := Aside0.mk hg_; have M2 := Aside0.mk h1_; have M3 := Aside0.mk hb_; have n0_ := Aside0.mk (HN.out.below hb_); clear HN hg_ h1_ hb_; have HN := n0_; clear n0_))
  have kf : World.cell? _ ⟨br, 1, none⟩ = some (Value.func (.func 40) #[] #[]) := blk_cell (blk_below HPR.out.rl HN.out.b) 1
  go_wp2_with (first | (go_at_call 24; (with_reducible refine (full_mk gb 40 #[] _).mono ?_); rintro en x9 ⟨b2, b3, rfl, a1_, a2_, a3_, a4_, a5_, a6_, a7_, a8_⟩; have F1 := Aside0.mk a1_; have F2 := Aside0.mk a2_; have F3 := Aside0.mk a3_; have F4 := Aside0.mk a4_; have F5 := Aside0.mk a5_; have F6 := Aside0.mk a6_; have F7 := Aside0.mk a7_; have F8 := Aside0.mk a8_; clear a1_ a2_ a3_ a4_ a5_ a6_ a7_ a8_ kf))
  have LT := Aside0.mk (lts_of HPR.out HN6.out B1.out B2.out B3.out M1.out M3.out M2.out F8.out)
  refine range_law (rd := rd2) (q := 14) (gb := gb) (gm := gm) (sb := sb) (lo := _) (hi := gb) (N := (c2.bytesV n).length) (code := 21) (c0 := cu (c2.bytesV n)) (lb := #[.pointer (some ⟨b2, 0, none⟩), .pointer (some ⟨b3, 0, none⟩)]) rfl LT.out.lay LT.out.lt ((B2.out.below M3.out).below F8.out) (blk_below HPR.out.sm (LT.out.b1)) (blk_below M2.out F8.out) (Nat.le_refl _) ?hit ?assign ?body ?done
  case hit =>
    intro W0 rec hb_ hz_
    have o_ := LT.out.od
    have m_ := blk_lt M2.out
    have f_ := F1.out
    have g_ := F2.out
    have j_ := F3.out
    have k_ := F4.out
    exact iter2 (by rw [hz_]; exact LT.out.lay) ⟨(hb_.cell (p := ⟨b2, 0, none⟩) F3.out).trans F5.out, (hb_.cell (p := ⟨b3, 0, none⟩) F4.out).trans F6.out, by omega, by omega⟩
  case assign =>
    intro l_ r_ W_ K_ hK_
    simp only [List.setIfInBounds_toArray, List.set_cons_zero, List.set_cons_succ] at hK_ ⊢
    gi_wp2
    exact hK_ _ _ rfl (blk_new _ _) (below_alloc (Below.refl _ _) _)
  case body =>
    intro l_ bx_ W0 rec_ W_ c_ s_ os_ raws_ v_ r_ x_ L_ hLS_ hg_ hx_ hb_ hk_
    simp only [List.setIfInBounds_toArray, List.set_cons_zero, List.set_cons_succ]
    obtain ⟨A9, n9, rfl, _, _⟩ := Kd.R_reads hLS_.row
    have k15 := hLS_.at_list.1
    have f15 := hLS_.at_list.2
    have HL_ := Aside0.mk hLS_
    have LL_ := Aside0.mk L_
    have HG_ := Aside0.mk hg_
    have HX_ := Aside0.mk hx_
    have HB_ := Aside0.mk hb_
    have HK_ := Aside0.mk (show W_.heap[bx_]? = some (.cells #[.int .u16 r_.f0, .int .u16 r_.f1, .int .u16 r_.f2, .slice r_.A r_.n r_.c] 43 (0, 0)) from hk_)
    clear hLS_ L_ hg_ hx_ hb_ hk_
    gi_wp2_with (first | ((with_reducible refine gateIn_dst (N := 56) rfl ?_); refine loadIn_row rfl 43 (.tmp 14) rfl bx_ rfl 43 _ (0, 0) _ HK_.out Try.underlying43 rfl (rec_info rfl) ?_) | ((with_reducible refine gateIn_dst (N := 58) rfl ?_); gi_at_builtin; refine R_append_in kRawR (w0 := W_) (W := W_) W0.heap.size rfl (.tmp 55) (.tmp 57) 27 43 (.agg recZ) 32 rfl Try.underlying27 (by kernel_rfl) rfl (by decide) (by decide) (.slice A9 raws_.length n9) raws_ r_ [Value.int .u16 r_.f0, .int .u16 r_.f1, .int .u16 r_.f2, .slice r_.A r_.n r_.c] (fun k => W0.heap.size ≤ k) (fun _ => False) rfl rfl rfl (fun _ h => h.elim) (fun k hk => Nat.le_trans HL_.out.up.kept.1 hk) HL_.out.row ⟨rfl, rfl, rfl, Nat.le_refl _, fun _ _ => rfl⟩ HL_.out.up.kept.1 (by have := HL_.out.few; omega) ?_; intro v1 y3 r1_ hb1 g1_ hv1_; obtain ⟨A8, n8, e8, _, _⟩ := Kd.R_reads r1_; obtain ⟨N8, hN8⟩ : ∃ z, z = (raws_ ++ [r_]).length := ⟨_, rfl⟩; rw [← hN8] at e8; subst e8; clear hN8; have R1 := Aside0.mk r1_; have G1 := Aside0.mk g1_; have V1 := Aside0.mk hv1_; have kl := (HL_.out.at_list' LL_.out g1_).1; have fl := (HL_.out.at_list' LL_.out g1_).2; clear r1_ g1_ hv1_ hb1 k15 f15))
    exact ⟨_, HL_.out.push LL_.out HG_.out HX_.out HB_.out R1.out G1.out V1.out⟩
  case done =>
    intro W0 W3 l_ rec_ cb s_ os raws v hb_ hz_ hl_ hLS_ hD_ hcb_ hos_
    obtain ⟨lo, cx, ha_⟩ := aft_of HPR.out HN.out F8.out LT.out hb_ hz_ hl_ hLS_ hD_ (by decide)
    have HA := Aside0.mk ha_
    have HF := Aside0.mk ha_.af
    have HCB := Aside0.mk hLS_.cur
    have HE1 := Aside0.mk hcb_
    have HE2 := Aside0.mk hos_
    clear hb_ hz_ hl_ hLS_ hD_ ha_ hcb_ hos_ LT HPR HN HN6 F1 F2 F3 F4 F5 F6 F7 F8 M1 M2 M3 B1 B2 B3 RZ RR
    obtain ⟨D, hd_⟩ : ∃ z, z = x9.heap.size := ⟨_, rfl⟩
    rw [← hd_] at HA ⊢
    clear hd_
    go_upto_region 15 with (first | (go_at_call 25; (with_reducible refine (p_err HCB.out).mono ?_); rintro en y1 ⟨rfl, rfl⟩) | (go_at_call 26; (with_reducible refine (within_any cb.e _).mono ?_); rintro en y2 ⟨rfl, hb_⟩; have n0_ := Aside0.mk (HF.out.below hb_); clear HF hb_; have HF := n0_; clear n0_) | (go_at_call 22; (with_reducible refine (Af.need HF.out (cb.e == 0) (within cb.e)).mono ?_); rintro en y3 ⟨rfl, hp_⟩; obtain ⟨c4, ec_⟩ : ∃ z, z = c3.need (cb.e == 0) (within cb.e) := ⟨_, rfl⟩; rw [← ec_] at hp_; have Ec4 := Aside0.mk ec_; clear ec_; have n0_ := Aside0.mk hp_; clear HF hp_; have HF := n0_; clear n0_))
    go_upto_region 16 with (first | (go_at_call 27; (with_reducible refine (Af.fin HF.out).mono ?_); rintro en y4 ⟨rfl, hp_⟩; obtain ⟨c5, ec_⟩ : ∃ z, z = c4.fin := ⟨_, rfl⟩; rw [← ec_] at hp_; have Ec5 := Aside0.mk ec_; clear ec_; have n0_ := Aside0.mk hp_; clear HF hp_; have HF := n0_; clear n0_))
    go_upto_region 17 with (first | (go_at_call 25; (with_reducible refine (p_err HF.out.cur).mono ?_); rintro en y5 ⟨rfl, rfl⟩))
    have EB : Aside0 (body rd2 may2 l = (c4, (partsG rd2 (c2.bytesV n).length 0 (cu (c2.bytesV n))).2)) := ⟨by simp only [body]; rw [← EN.out, ← Ec1.out, ← Ec2.out, ← Ec3.out, ← HE1.out, ← Ec4.out]⟩
    by_cases h9 : c5.e = 0
    · have g1 : (c5.e != 0) = false := by rw [h9]; rfl
      have h4_ : c4.e = 0 := (fin_ok (by rw [← Ec5.out]; exact h9)).1
      have h5_ : cb.e = 0 := by
        obtain ⟨_, e_, _⟩ := need_ok' (c := c3) (ok := (cb.e == 0)) (f := within cb.e) (fun e_ => by rw [within_ne e_]; rfl) (by rw [← Ec4.out]; exact h4_)
        simpa using e_
      have EX : Aside0 (outc 21 (body rd2 may2 l) = ({ zeroM with code := 21, recs := os }, 0)) := ⟨by simp only [outc]; rw [EB.out]; simp only []; rw [← Ec5.out, if_neg (fun h => h h9), HE2.out h5_]⟩
      clear h4_ h5_ h9
      have SZ := Aside0.mk (IsMsg.size (HA.out.is _ (Kept.refl _ _)))
      have ON := Aside0.mk (IsMsg.one (HA.out.is _ (Kept.refl _ _)))
      go_wp2_with (first | ((with_reducible refine gate_dst (N := 76) rfl ?_); refine wpList_load_row rfl 30 (.tmp 13) rfl gm rfl 30 cx (0, 0) _ (blk_kept HA.out.mg HF.out.k.kept HA.out.ne.2.1) Try.underlying30 rfl (msg_info SZ.out) ?_) | ((with_reducible refine gate_op (u := .store 30 (.tmp 6) (.tmp 76)) rfl ?_); refine Same.wpList_store_row 30 (.tmp 6) (.tmp 76) rfl rfl rfl rfl (blk_kept HA.out.res HF.out.k.kept HA.out.ne.1) SZ.out.symm (msg_info SZ.out) ON.out ?_; intro y9 h3_ h4_; have HZ := Aside0.mk (Aft.fin HA.out HF.out h4_ h3_); clear h3_ h4_))
      refine ⟨by simp, .inl ⟨_, _, rfl, run_takeDeferred HZ.out.1, ?_⟩⟩
      refine ⟨_, results_ct rfl _ _ gr 30 cx (0, 0) _ rfl HZ.out.2.1 Try.underlying30 rfl (msg_info SZ.out), ?_⟩
      rw [EX.out]
      exact ⟨cx, rfl, HA.out.is _ HZ.out.2.2.2, HZ.out.2.2.1⟩
    · have g1 : (c5.e != 0) = true := by simpa using h9
      have EX : Aside0 (outc 21 (body rd2 may2 l) = (zeroM, c5.e)) := ⟨by simp only [outc]; rw [EB.out]; simp only []; rw [← Ec5.out, if_pos h9]⟩
      clear h9
      go_wp2_with (first | ((with_reducible refine gate_dst (N := 74) rfl ?_); refine ev_build (zeroC) rfl (by go_simp; first | rfl | done) ?_; intro cz hcz_; have CZ := Aside0.mk hcz_; clear hcz_) | ((with_reducible refine gate_op (u := .store 30 (.tmp 6) (.tmp 74)) rfl ?_); refine Same.wpList_store_row 30 (.tmp 6) (.tmp 74) rfl rfl rfl rfl (blk_kept HA.out.res HF.out.k.kept HA.out.ne.1) (by rw [CZ.out]) (msg_info (by rw [CZ.out]; rfl)) (by rw [CZ.out]; exact (zero_is w0).one) ?_; intro y9 h3_ h4_; have HZ := Aside0.mk (Aft.fin HA.out HF.out h4_ h3_); clear h3_ h4_))
      refine ⟨by simp, .inl ⟨_, _, rfl, run_takeDeferred HZ.out.1, ?_⟩⟩
      refine ⟨_, results_ct rfl _ _ gr 30 cz (0, 0) _ rfl HZ.out.2.1 Try.underlying30 rfl (msg_info (by rw [CZ.out]; rfl)), ?_⟩
      rw [EX.out]
      exact ⟨cz, rfl, by rw [CZ.out]; exact zero_is _, HZ.out.2.2.1⟩
theorem parse_t3 {A : Option Addr} {c : Nat} {l : List Int} {w0 : World} (hr : Kd.C (Kd.int .u8) w0 A l.length l) (hc : l.length ≤ c) (hs : l.length ≤ 1000000) (hb : isBytes l) :
    Calls Try.prog 12 #[.int .i64 1, .int .u8 21, .slice A l.length c] w0 fun en w' => ∃ cx, en = .returned (.tuple #[.agg cx, .int .i64 (outc 21 (body rd2 may2 l)).2]) ∧ IsMsg w' cx (outc 21 (body rd2 may2 l)).1 ∧ Below w0.heap.size w0 w' := by
  have HR := Aside0.mk hr
  have HC := Aside0.mk hc
  have HS := Aside0.mk hs
  have HBB := Aside0.mk hb
  clear hr hc hs hb
  refine (callsIn_wide (n := 7)).1 (callsIn_of_wp_marks Try.func12 rfl trivial (wpIn_wide.2 ?_) rfl)
  simp only [Try.ntmps12, List.size_toArray, List.length_cons, List.length_nil, Nat.reduceAdd, Nat.reduceSub, Array.replicate_succ, Array.replicate_zero, List.push_toArray, List.append_toArray, List.nil_append, List.cons_append]
  go_upto_region 3 with (first | ((with_reducible refine gate_dst (N := 6) rfl ?_); refine ev_alloc rfl rfl ?_; intro gr w1 hg_ h1_ h2_; have HG := Aside0.mk hg_; have H1 := Aside0.mk h1_; have H2 := Aside0.mk h2_; clear hg_ h1_ h2_))
  go_upto_region 4 with (first | (go_at_call 19; (with_reducible refine (rules_21 _).mono ?_); rintro en x1 ⟨sb, rfl, a1_, a2_, a3_⟩; have S1 := Aside0.mk a1_; have S2 := Aside0.mk a2_; have S3 := Aside0.mk a3_; clear a1_ a2_ a3_) | ((with_reducible refine gate_dst (N := 8) rfl ?_); refine ev_rule rfl rfl ?_; intro br w2 hg_ h1_ h2_; have R1 := Aside0.mk hg_; have R2 := Aside0.mk h1_; have R3 := Aside0.mk h2_; clear hg_ h1_ h2_) | ((with_reducible refine gate_op (u := .store 51 (.tmp 8) (.tmp 27)) rfl ?_); refine Same.wpList_store_row 51 (.tmp 8) (.tmp 27) rfl rfl rfl rfl R2.out rfl (by kernel_rfl) funcs_one ?_; intro W1 h3_ h4_; have HPR := Aside0.mk (Pr.mk' HG.out H1.out H2.out S1.out S2.out S3.out R1.out R3.out h3_ h4_); clear h3_ h4_ HG H1 H2 S1 S2 S3 R1 R2 R3))
  go_upto_region 6 with (fail)
  go_upto_region 7 with (first | (go_at_call 20; (with_reducible refine (p_new A c l _ (Kd.C_below HR.out HPR.out.b) HC.out HS.out HBB.out).mono ?_); rintro en x2 ⟨g, rfl, q1_, q2_, q3_, q4_⟩; have HN := Aside0.mk (show Nw2 W1 g x2 (cu l) from ⟨q3_, ⟨_, q2_, Nat.le_refl _⟩, q1_⟩); clear q1_ q2_ q3_ q4_))
  obtain ⟨n, en_⟩ : ∃ z, z = (cu l).byteV := ⟨_, rfl⟩
  have EN := Aside0.mk en_
  obtain ⟨l0, h0⟩ := Cu.byteV_bd (Nw2.good HN.out)
  rw [← en_] at l0 h0
  clear en_
  go_upto_region 8 with (first | (go_at_call 21; (with_reducible refine (Nw2.byte HN.out).mono ?_); rintro en x3 ⟨rfl, hp_⟩; rw [← EN.out]; obtain ⟨c1, ec_⟩ : ∃ z, z = (cu l).byteS := ⟨_, rfl⟩; rw [← ec_] at hp_; have Ec1 := Aside0.mk ec_; clear ec_; have n0_ := Aside0.mk hp_; clear HN hp_; have HN := n0_; clear n0_))
  have kf : World.cell? _ ⟨br, 0, none⟩ = some (Value.func (.func 39) #[] #[]) := blk_cell (blk_below HPR.out.rl HN.out.b) 0
  go_upto_region 9 with (first | (go_at_call 39; (with_reducible refine (may2_any l0 h0 _).mono ?_); rintro en x4 ⟨rfl, hb_⟩; have n0_ := Aside0.mk (HN.out.below hb_); clear HN hb_ kf; have HN := n0_; clear n0_) | (go_at_call 22; (with_reducible refine (Nw2.need HN.out (may2 n) 5).mono ?_); rintro en x5 ⟨rfl, hp_⟩; obtain ⟨c2, ec_⟩ : ∃ z, z = c1.need (may2 n) 5 := ⟨_, rfl⟩; rw [← ec_] at hp_; have Ec2 := Aside0.mk ec_; clear ec_; have n0_ := Aside0.mk hp_; clear HN hp_; have HN := n0_; clear n0_))
  have HG2 := Aside0.mk (Nw2.good HN.out)
  go_upto_region 10 with (first | (go_at_call 23; (with_reducible refine (Nw2.bytes HN.out n).mono ?_); rintro en x6 ⟨A5, n5, rfl, hz_, hr_, hp_⟩; obtain ⟨c3, ec_⟩ : ∃ z, z = c2.bytesS n := ⟨_, rfl⟩; rw [← ec_] at hp_; have Ec3 := Aside0.mk ec_; clear ec_; have RZ := Aside0.mk hz_; have RR := Aside0.mk hr_; have n0_ := Aside0.mk hp_; clear HN hp_ hz_ hr_; have HN := n0_; clear n0_) | (go_at_call 20; (with_reducible refine (p_new A5 n5 (c2.bytesV n) _ RR.out RZ.out (bytesV_len HG2.out n) (Cu.bytes_bytesV HG2.out n)).mono ?_); rintro en x7 ⟨gb, rfl, q1_, q2_, q3_, q4_⟩; have B1 := Aside0.mk q1_; have B2 := Aside0.mk q2_; have B3 := Aside0.mk q3_; have n0_ := Aside0.mk (HN.out.below q3_); have HN6 := HN; clear HN q1_ q2_ q3_ q4_; have HN := n0_; clear n0_))
  go_upto_region 11 with (first | ((with_reducible refine gate_dst (N := 48) rfl ?_); refine ev_build (codeC 21) rfl (by go_simp; first | rfl | done) ?_; intro cx hcx_; subst hcx_) | ((with_reducible refine gate_dst (N := 13) rfl ?_); refine ev_var (y := .tmp 48) rfl rfl rfl rfl rfl (codeC_is (code := 21) (by decide) w0) rfl rfl ?_; intro gm x8 hg_ h1_ hb_; have M1 := Aside0.mk hg_; have M2 := Aside0.mk h1_; have M3 := Aside0.mk hb_; have n0_ := Aside0.mk (HN.out.below hb_); clear HN hg_ h1_ hb_; have HN := n0_; clear n0_))
  have kf : World.cell? _ ⟨br, 1, none⟩ = some (Value.func (.func 40) #[] #[]) := blk_cell (blk_below HPR.out.rl HN.out.b) 1
  go_wp2_with (first | (go_at_call 24; (with_reducible refine (full_mk gb 40 #[] _).mono ?_); rintro en x9 ⟨b2, b3, rfl, a1_, a2_, a3_, a4_, a5_, a6_, a7_, a8_⟩; have F1 := Aside0.mk a1_; have F2 := Aside0.mk a2_; have F3 := Aside0.mk a3_; have F4 := Aside0.mk a4_; have F5 := Aside0.mk a5_; have F6 := Aside0.mk a6_; have F7 := Aside0.mk a7_; have F8 := Aside0.mk a8_; clear a1_ a2_ a3_ a4_ a5_ a6_ a7_ a8_ kf))
  have LT := Aside0.mk (lts_of HPR.out HN6.out B1.out B2.out B3.out M1.out M3.out M2.out F8.out)
  refine range_law (rd := rd2) (q := 14) (gb := gb) (gm := gm) (sb := sb) (lo := _) (hi := gb) (N := (c2.bytesV n).length) (code := 21) (c0 := cu (c2.bytesV n)) (lb := #[.pointer (some ⟨b2, 0, none⟩), .pointer (some ⟨b3, 0, none⟩)]) rfl LT.out.lay LT.out.lt ((B2.out.below M3.out).below F8.out) (blk_below HPR.out.sm (LT.out.b1)) (blk_below M2.out F8.out) (Nat.le_refl _) ?hit ?assign ?body ?done
  case hit =>
    intro W0 rec hb_ hz_
    have o_ := LT.out.od
    have m_ := blk_lt M2.out
    have f_ := F1.out
    have g_ := F2.out
    have j_ := F3.out
    have k_ := F4.out
    exact iter2 (by rw [hz_]; exact LT.out.lay) ⟨(hb_.cell (p := ⟨b2, 0, none⟩) F3.out).trans F5.out, (hb_.cell (p := ⟨b3, 0, none⟩) F4.out).trans F6.out, by omega, by omega⟩
  case assign =>
    intro l_ r_ W_ K_ hK_
    simp only [List.setIfInBounds_toArray, List.set_cons_zero, List.set_cons_succ] at hK_ ⊢
    gi_wp2
    exact hK_ _ _ rfl (blk_new _ _) (below_alloc (Below.refl _ _) _)
  case body =>
    intro l_ bx_ W0 rec_ W_ c_ s_ os_ raws_ v_ r_ x_ L_ hLS_ hg_ hx_ hb_ hk_
    simp only [List.setIfInBounds_toArray, List.set_cons_zero, List.set_cons_succ]
    obtain ⟨A9, n9, rfl, _, _⟩ := Kd.R_reads hLS_.row
    have k15 := hLS_.at_list.1
    have f15 := hLS_.at_list.2
    have HL_ := Aside0.mk hLS_
    have LL_ := Aside0.mk L_
    have HG_ := Aside0.mk hg_
    have HX_ := Aside0.mk hx_
    have HB_ := Aside0.mk hb_
    have HK_ := Aside0.mk (show W_.heap[bx_]? = some (.cells #[.int .u16 r_.f0, .int .u16 r_.f1, .int .u16 r_.f2, .slice r_.A r_.n r_.c] 43 (0, 0)) from hk_)
    clear hLS_ L_ hg_ hx_ hb_ hk_
    gi_wp2_with (first | ((with_reducible refine gateIn_dst (N := 56) rfl ?_); refine loadIn_row rfl 43 (.tmp 14) rfl bx_ rfl 43 _ (0, 0) _ HK_.out Try.underlying43 rfl (rec_info rfl) ?_) | ((with_reducible refine gateIn_dst (N := 58) rfl ?_); gi_at_builtin; refine R_append_in kRawR (w0 := W_) (W := W_) W0.heap.size rfl (.tmp 55) (.tmp 57) 27 43 (.agg recZ) 32 rfl Try.underlying27 (by kernel_rfl) rfl (by decide) (by decide) (.slice A9 raws_.length n9) raws_ r_ [Value.int .u16 r_.f0, .int .u16 r_.f1, .int .u16 r_.f2, .slice r_.A r_.n r_.c] (fun k => W0.heap.size ≤ k) (fun _ => False) rfl rfl rfl (fun _ h => h.elim) (fun k hk => Nat.le_trans HL_.out.up.kept.1 hk) HL_.out.row ⟨rfl, rfl, rfl, Nat.le_refl _, fun _ _ => rfl⟩ HL_.out.up.kept.1 (by have := HL_.out.few; omega) ?_; intro v1 y3 r1_ hb1 g1_ hv1_; obtain ⟨A8, n8, e8, _, _⟩ := Kd.R_reads r1_; obtain ⟨N8, hN8⟩ : ∃ z, z = (raws_ ++ [r_]).length := ⟨_, rfl⟩; rw [← hN8] at e8; subst e8; clear hN8; have R1 := Aside0.mk r1_; have G1 := Aside0.mk g1_; have V1 := Aside0.mk hv1_; have kl := (HL_.out.at_list' LL_.out g1_).1; have fl := (HL_.out.at_list' LL_.out g1_).2; clear r1_ g1_ hv1_ hb1 k15 f15))
    exact ⟨_, HL_.out.push LL_.out HG_.out HX_.out HB_.out R1.out G1.out V1.out⟩
  case done =>
    intro W0 W3 l_ rec_ cb s_ os raws v hb_ hz_ hl_ hLS_ hD_ hcb_ hos_
    obtain ⟨lo, cx, ha_⟩ := aft_of HPR.out HN.out F8.out LT.out hb_ hz_ hl_ hLS_ hD_ (by decide)
    have HA := Aside0.mk ha_
    have HF := Aside0.mk ha_.af
    have HCB := Aside0.mk hLS_.cur
    have HE1 := Aside0.mk hcb_
    have HE2 := Aside0.mk hos_
    clear hb_ hz_ hl_ hLS_ hD_ ha_ hcb_ hos_ LT HPR HN HN6 F1 F2 F3 F4 F5 F6 F7 F8 M1 M2 M3 B1 B2 B3 RZ RR
    obtain ⟨D, hd_⟩ : ∃ z, z = x9.heap.size := ⟨_, rfl⟩
    rw [← hd_] at HA ⊢
    clear hd_
    go_upto_region 15 with (first | (go_at_call 25; (with_reducible refine (p_err HCB.out).mono ?_); rintro en y1 ⟨rfl, rfl⟩) | (go_at_call 26; (with_reducible refine (within_any cb.e _).mono ?_); rintro en y2 ⟨rfl, hb_⟩; have n0_ := Aside0.mk (HF.out.below hb_); clear HF hb_; have HF := n0_; clear n0_) | (go_at_call 22; (with_reducible refine (Af.need HF.out (cb.e == 0) (within cb.e)).mono ?_); rintro en y3 ⟨rfl, hp_⟩; obtain ⟨c4, ec_⟩ : ∃ z, z = c3.need (cb.e == 0) (within cb.e) := ⟨_, rfl⟩; rw [← ec_] at hp_; have Ec4 := Aside0.mk ec_; clear ec_; have n0_ := Aside0.mk hp_; clear HF hp_; have HF := n0_; clear n0_))
    go_upto_region 16 with (first | (go_at_call 27; (with_reducible refine (Af.fin HF.out).mono ?_); rintro en y4 ⟨rfl, hp_⟩; obtain ⟨c5, ec_⟩ : ∃ z, z = c4.fin := ⟨_, rfl⟩; rw [← ec_] at hp_; have Ec5 := Aside0.mk ec_; clear ec_; have n0_ := Aside0.mk hp_; clear HF hp_; have HF := n0_; clear n0_))
    go_upto_region 17 with (first | (go_at_call 25; (with_reducible refine (p_err HF.out.cur).mono ?_); rintro en y5 ⟨rfl, rfl⟩))
    have EB : Aside0 (body rd2 may2 l = (c4, (partsG rd2 (c2.bytesV n).length 0 (cu (c2.bytesV n))).2)) := ⟨by simp only [body]; rw [← EN.out, ← Ec1.out, ← Ec2.out, ← Ec3.out, ← HE1.out, ← Ec4.out]⟩
    by_cases h9 : c5.e = 0
    · have g1 : (c5.e != 0) = false := by rw [h9]; rfl
      have h4_ : c4.e = 0 := (fin_ok (by rw [← Ec5.out]; exact h9)).1
      have h5_ : cb.e = 0 := by
        obtain ⟨_, e_, _⟩ := need_ok' (c := c3) (ok := (cb.e == 0)) (f := within cb.e) (fun e_ => by rw [within_ne e_]; rfl) (by rw [← Ec4.out]; exact h4_)
        simpa using e_
      have EX : Aside0 (outc 21 (body rd2 may2 l) = ({ zeroM with code := 21, recs := os }, 0)) := ⟨by simp only [outc]; rw [EB.out]; simp only []; rw [← Ec5.out, if_neg (fun h => h h9), HE2.out h5_]⟩
      clear h4_ h5_ h9
      have SZ := Aside0.mk (IsMsg.size (HA.out.is _ (Kept.refl _ _)))
      have ON := Aside0.mk (IsMsg.one (HA.out.is _ (Kept.refl _ _)))
      go_wp2_with (first | ((with_reducible refine gate_dst (N := 76) rfl ?_); refine wpList_load_row rfl 30 (.tmp 13) rfl gm rfl 30 cx (0, 0) _ (blk_kept HA.out.mg HF.out.k.kept HA.out.ne.2.1) Try.underlying30 rfl (msg_info SZ.out) ?_) | ((with_reducible refine gate_op (u := .store 30 (.tmp 6) (.tmp 76)) rfl ?_); refine Same.wpList_store_row 30 (.tmp 6) (.tmp 76) rfl rfl rfl rfl (blk_kept HA.out.res HF.out.k.kept HA.out.ne.1) SZ.out.symm (msg_info SZ.out) ON.out ?_; intro y9 h3_ h4_; have HZ := Aside0.mk (Aft.fin HA.out HF.out h4_ h3_); clear h3_ h4_))
      refine ⟨by simp, .inl ⟨_, _, rfl, run_takeDeferred HZ.out.1, ?_⟩⟩
      refine ⟨_, results_ct rfl _ _ gr 30 cx (0, 0) _ rfl HZ.out.2.1 Try.underlying30 rfl (msg_info SZ.out), ?_⟩
      rw [EX.out]
      exact ⟨cx, rfl, HA.out.is _ HZ.out.2.2.2, HZ.out.2.2.1⟩
    · have g1 : (c5.e != 0) = true := by simpa using h9
      have EX : Aside0 (outc 21 (body rd2 may2 l) = (zeroM, c5.e)) := ⟨by simp only [outc]; rw [EB.out]; simp only []; rw [← Ec5.out, if_pos h9]⟩
      clear h9
      go_wp2_with (first | ((with_reducible refine gate_dst (N := 74) rfl ?_); refine ev_build (zeroC) rfl (by go_simp; first | rfl | done) ?_; intro cz hcz_; have CZ := Aside0.mk hcz_; clear hcz_) | ((with_reducible refine gate_op (u := .store 30 (.tmp 6) (.tmp 74)) rfl ?_); refine Same.wpList_store_row 30 (.tmp 6) (.tmp 74) rfl rfl rfl rfl (blk_kept HA.out.res HF.out.k.kept HA.out.ne.1) (by rw [CZ.out]) (msg_info (by rw [CZ.out]; rfl)) (by rw [CZ.out]; exact (zero_is w0).one) ?_; intro y9 h3_ h4_; have HZ := Aside0.mk (Aft.fin HA.out HF.out h4_ h3_); clear h3_ h4_))
      refine ⟨by simp, .inl ⟨_, _, rfl, run_takeDeferred HZ.out.1, ?_⟩⟩
      refine ⟨_, results_ct rfl _ _ gr 30 cz (0, 0) _ rfl HZ.out.2.1 Try.underlying30 rfl (msg_info (by rw [CZ.out]; rfl)), ?_⟩
      rw [EX.out]
      exact ⟨cz, rfl, by rw [CZ.out]; exact zero_is _, HZ.out.2.2.1⟩
theorem parse_dir {A : Option Addr} {c : Nat} {l : List Int} {w0 : World} (hr : Kd.C (Kd.int .u8) w0 A l.length l) (hc : l.length ≤ c) (hs : l.length ≤ 1000000) (hb : isBytes l) {dir code : Int} (h0 : dir ≠ 0) (h1 : dir ≠ 1) :
    Calls Try.prog 12 #[.int .i64 dir, .int .u8 code, .slice A l.length c] w0 fun en w' => ∃ cx, en = .returned (.tuple #[.agg cx, .int .i64 1]) ∧ IsMsg w' cx zeroM ∧ Below w0.heap.size w0 w' := by
  have e0 : (dir != 0) = true := by simpa using h0
  have e1 : (dir != 1) = true := by simpa using h1
  have e0' : (dir == 0) = false := by simpa using h0
  have e1' : (dir == 1) = false := by simpa using h1
  clear h0 h1
  clear hr hc hs hb
  go_enter Try.func12, Try.ntmps12
  go_wp2_with (first | ((with_reducible refine gate_dst (N := 6) rfl ?_); refine ev_alloc rfl rfl ?_; intro gr w1 hg_ h1_ h2_; have HG := Aside0.mk hg_; have H1 := Aside0.mk h1_; have HB := Aside0.mk h2_; clear hg_ h1_ h2_) | ((with_reducible refine gate_dst (N := 22) rfl ?_); refine ev_build (zeroC) rfl (by go_simp; first | rfl | done) ?_; intro cz hcz_; have CZ := Aside0.mk hcz_; clear hcz_) | ((with_reducible refine gate_op (u := .store 30 (.tmp 6) (.tmp 22)) rfl ?_); refine Same.wpList_store_row 30 (.tmp 6) (.tmp 22) rfl rfl rfl rfl H1.out (by rw [CZ.out]) (msg_info (by rw [CZ.out]; rfl)) (by rw [CZ.out]; exact (zero_is w0).one) ?_; intro y9 h3_ h4_; have HZ := Aside0.mk h3_; have HW := Aside0.mk (HB.out.trans (h4_.below (by have := HG.out; omega) HB.out.size)); clear h3_ h4_))
  refine bodyPost_ret (results_ct rfl _ _ gr 30 cz (0, 0) _ rfl HZ.out Try.underlying30 rfl (msg_info (by rw [CZ.out]; rfl))) rfl ⟨cz, rfl, by rw [CZ.out]; exact zero_is _, HW.out⟩
theorem parse_no0 {A : Option Addr} {c : Nat} {l : List Int} {w0 : World} (hr : Kd.C (Kd.int .u8) w0 A l.length l) (hc : l.length ≤ c) (hs : l.length ≤ 1000000) (hb : isBytes l) {code : Int} (h0 : code ≠ 20) (h1 : code ≠ 21) :
    Calls Try.prog 12 #[.int .i64 0, .int .u8 code, .slice A l.length c] w0 fun en w' => ∃ cx, en = .returned (.tuple #[.agg cx, .int .i64 4]) ∧ IsMsg w' cx zeroM ∧ Below w0.heap.size w0 w' := by
  clear hr hc hs hb
  go_enter Try.func12, Try.ntmps12
  go_wp2_with (first | ((with_reducible refine gate_dst (N := 6) rfl ?_); refine ev_alloc rfl rfl ?_; intro gr w1 hg_ h1_ h2_; have HG := Aside0.mk hg_; have H1 := Aside0.mk h1_; have HB := Aside0.mk h2_; clear hg_ h1_ h2_) | (go_at_call 19; (with_reducible refine (rules_no0 h0 h1 _).mono ?_); rintro en x1 ⟨rfl, hb_⟩; have n0_ := Aside0.mk (blk_below H1.out hb_); have n1_ := Aside0.mk (HB.out.trans (hb_.mono HB.out.size)); clear H1 HB hb_; have H1 := n0_; have HB := n1_; clear n0_ n1_) | ((with_reducible refine gate_dst (N := 8) rfl ?_); refine ev_rule rfl rfl ?_; intro br w2 hg_ h1_ h2_; have R1 := Aside0.mk hg_; have R2 := Aside0.mk h1_; have R3 := Aside0.mk h2_; clear hg_ h1_ h2_) | ((with_reducible refine gate_op (u := .store 51 (.tmp 8) (.tmp 27)) rfl ?_); refine Same.wpList_store_row 51 (.tmp 8) (.tmp 27) rfl rfl rfl rfl R2.out rfl (by kernel_rfl) (by simp [Value.oneCell']) ?_; intro W1 h3_ h4_; have k_ := R3.out.trans (h4_.below (by have := R1.out; omega) R3.out.size); have n0_ := Aside0.mk (blk_below H1.out k_); have n1_ := Aside0.mk (HB.out.trans (k_.mono HB.out.size)); clear H1 HB h3_ h4_ k_; have H1 := n0_; have HB := n1_; clear n0_ n1_) | ((with_reducible refine gate_dst (N := 31) rfl ?_); refine ev_build (zeroC) rfl (by go_simp; first | rfl | done) ?_; intro cz hcz_; have CZ := Aside0.mk hcz_; clear hcz_) | ((with_reducible refine gate_op (u := .store 30 (.tmp 6) (.tmp 31)) rfl ?_); refine Same.wpList_store_row 30 (.tmp 6) (.tmp 31) rfl rfl rfl rfl H1.out (by rw [CZ.out]) (msg_info (by rw [CZ.out]; rfl)) (by rw [CZ.out]; exact (zero_is w0).one) ?_; intro y9 h3_ h4_; have HZ := Aside0.mk h3_; have HW := Aside0.mk (HB.out.trans (h4_.below (by have := HG.out; omega) HB.out.size)); clear h3_ h4_))
  refine bodyPost_ret (results_ct rfl _ _ gr 30 cz (0, 0) _ rfl HZ.out Try.underlying30 rfl (msg_info (by rw [CZ.out]; rfl))) rfl ⟨cz, rfl, by rw [CZ.out]; exact zero_is _, HW.out⟩
theorem parse_no1 {A : Option Addr} {c : Nat} {l : List Int} {w0 : World} (hr : Kd.C (Kd.int .u8) w0 A l.length l) (hc : l.length ≤ c) (hs : l.length ≤ 1000000) (hb : isBytes l) {code : Int} (h0 : code ≠ 20) (h1 : code ≠ 21) :
    Calls Try.prog 12 #[.int .i64 1, .int .u8 code, .slice A l.length c] w0 fun en w' => ∃ cx, en = .returned (.tuple #[.agg cx, .int .i64 4]) ∧ IsMsg w' cx zeroM ∧ Below w0.heap.size w0 w' := by
  clear hr hc hs hb
  go_enter Try.func12, Try.ntmps12
  go_wp2_with (first | ((with_reducible refine gate_dst (N := 6) rfl ?_); refine ev_alloc rfl rfl ?_; intro gr w1 hg_ h1_ h2_; have HG := Aside0.mk hg_; have H1 := Aside0.mk h1_; have HB := Aside0.mk h2_; clear hg_ h1_ h2_) | (go_at_call 19; (with_reducible refine (rules_no1 h0 h1 _).mono ?_); rintro en x1 ⟨rfl, hb_⟩; have n0_ := Aside0.mk (blk_below H1.out hb_); have n1_ := Aside0.mk (HB.out.trans (hb_.mono HB.out.size)); clear H1 HB hb_; have H1 := n0_; have HB := n1_; clear n0_ n1_) | ((with_reducible refine gate_dst (N := 8) rfl ?_); refine ev_rule rfl rfl ?_; intro br w2 hg_ h1_ h2_; have R1 := Aside0.mk hg_; have R2 := Aside0.mk h1_; have R3 := Aside0.mk h2_; clear hg_ h1_ h2_) | ((with_reducible refine gate_op (u := .store 51 (.tmp 8) (.tmp 27)) rfl ?_); refine Same.wpList_store_row 51 (.tmp 8) (.tmp 27) rfl rfl rfl rfl R2.out rfl (by kernel_rfl) (by simp [Value.oneCell']) ?_; intro W1 h3_ h4_; have k_ := R3.out.trans (h4_.below (by have := R1.out; omega) R3.out.size); have n0_ := Aside0.mk (blk_below H1.out k_); have n1_ := Aside0.mk (HB.out.trans (k_.mono HB.out.size)); clear H1 HB h3_ h4_ k_; have H1 := n0_; have HB := n1_; clear n0_ n1_) | ((with_reducible refine gate_dst (N := 31) rfl ?_); refine ev_build (zeroC) rfl (by go_simp; first | rfl | done) ?_; intro cz hcz_; have CZ := Aside0.mk hcz_; clear hcz_) | ((with_reducible refine gate_op (u := .store 30 (.tmp 6) (.tmp 31)) rfl ?_); refine Same.wpList_store_row 30 (.tmp 6) (.tmp 31) rfl rfl rfl rfl H1.out (by rw [CZ.out]) (msg_info (by rw [CZ.out]; rfl)) (by rw [CZ.out]; exact (zero_is w0).one) ?_; intro y9 h3_ h4_; have HZ := Aside0.mk h3_; have HW := Aside0.mk (HB.out.trans (h4_.below (by have := HG.out; omega) HB.out.size)); clear h3_ h4_))
  refine bodyPost_ret (results_ct rfl _ _ gr 30 cz (0, 0) _ rfl HZ.out Try.underlying30 rfl (msg_info (by rw [CZ.out]; rfl))) rfl ⟨cz, rfl, by rw [CZ.out]; exact zero_is _, HW.out⟩
theorem parse_any {dir code : Int} {A : Option Addr} {c : Nat} {l : List Int} {w0 : World} (hr : Kd.C (Kd.int .u8) w0 A l.length l) (hc : l.length ≤ c) (hs : l.length ≤ 1000000) (hb : isBytes l) :
    Calls Try.prog 12 #[.int .i64 dir, .int .u8 code, .slice A l.length c] w0 fun en w' => ∃ cx, en = .returned (.tuple #[.agg cx, .int .i64 (parse dir code l).2]) ∧ IsMsg w' cx (parse dir code l).1 ∧ Below w0.heap.size w0 w' := by
  by_cases h2 : dir ≠ 0 ∧ dir ≠ 1
  · have e : parse dir code l = (zeroM, 1) := by unfold parse; rw [if_pos h2]
    rw [e]; exact parse_dir hr hc hs hb h2.1 h2.2
  by_cases h3 : code ≠ 20 ∧ code ≠ 21
  · have e : parse dir code l = (zeroM, 4) := by unfold parse; rw [if_neg h2, if_pos h3]
    rw [e]
    have h4 : dir = 0 ∨ dir = 1 := by omega
    rcases h4 with rfl | rfl
    · exact parse_no0 hr hc hs hb h3.1 h3.2
    · exact parse_no1 hr hc hs hb h3.1 h3.2
  have h4 : dir = 0 ∨ dir = 1 := by omega
  have h5 : code = 20 ∨ code = 21 := by omega
  rcases h4 with rfl | rfl <;> rcases h5 with rfl | rfl
  · exact parse_t0 hr hc hs hb
  · exact parse_t2 hr hc hs hb
  · exact parse_t1 hr hc hs hb
  · exact parse_t3 hr hc hs hb
end Go.Proofs.Ytdjeekpgcjcffaa.Fil
end
section
namespace Go.Proofs.Ytdjeekpgcjcffaa.Com
open Go.RowKit Go.Proofs.Ytdjeekpgcjcffaa.P Go.Proofs.Ytdjeekpgcjcffaa.E Go.Proofs.Ytdjeekpgcjcffaa.Same Go.Proofs.YtdjeekpgcjcffaaW.PrintWords Go.Proofs.YtdjeekpgcjcffaaW.PrintLast Go.Proofs.YtdjeekpgcjcffaaW.PrintMore
def ParseC (fn : Nat) (dir code : Int) (l : List Int) (P : Msg × Int) : Prop := ∀ (A : Option Addr) (c : Nat) (W : World), Kd.C (Kd.int .u8) W A l.length l → l.length ≤ c → Calls Try.prog fn #[.int .i64 dir, .int .u8 code, .slice A l.length c] W fun en w' => ∃ cx, en = .returned (.tuple #[.agg cx, .int .i64 P.2]) ∧ IsMsg w' cx P.1 ∧ Below W.heap.size W w'
def LayC (fn : Nat) (dir : Int) (m : Msg) (l : List Int) : Prop := ∀ (cx : Array Value) (W : World), IsMsg W cx m → Calls Try.prog fn #[.int .i64 dir, .agg cx] W fun en w' => ∃ A c, en = .returned (.slice A l.length c) ∧ l.length ≤ c ∧ Kd.C (Kd.int .u8) w' A l.length l ∧ Below W.heap.size W w'
def WriteC (fn : Nat) (dir : Int) (m : Msg) (R : List Int × Int) : Prop := ∀ (cx : Array Value) (W : World), IsMsg W cx m → Calls Try.prog fn #[.int .i64 dir, .agg cx] W fun en w' => ∃ A c, en = .returned (.tuple #[.slice A R.1.length c, .int .i64 R.2]) ∧ R.1.length ≤ c ∧ Kd.C (Kd.int .u8) w' A R.1.length R.1 ∧ Below W.heap.size W w'
def AwakeC (fn : Nat) : Prop := ∀ W : World, Calls Try.prog fn #[] W fun en w' => en = .returned (.bool true) ∧ Below W.heap.size W w'
theorem ParseC.c {fn : Nat} {dir code : Int} {l : List Int} {P : Msg × Int} (h : ParseC fn dir code l P) {A : Option Addr} {c : Nat} {W : World} (hr : Kd.C (Kd.int .u8) W A l.length l) (hc : l.length ≤ c) : Calls Try.prog fn #[.int .i64 dir, .int .u8 code, .slice A l.length c] W fun en w' => ∃ cx, en = .returned (.tuple #[.agg cx, .int .i64 P.2]) ∧ IsMsg w' cx P.1 ∧ Below W.heap.size W w' := h A c W hr hc
theorem LayC.c {fn : Nat} {dir : Int} {m : Msg} {l : List Int} (h : LayC fn dir m l) {cx : Array Value} {W : World} (hm : IsMsg W cx m) : Calls Try.prog fn #[.int .i64 dir, .agg cx] W fun en w' => ∃ A c, en = .returned (.slice A l.length c) ∧ l.length ≤ c ∧ Kd.C (Kd.int .u8) w' A l.length l ∧ Below W.heap.size W w' := h cx W hm
theorem WriteC.c {fn : Nat} {dir : Int} {m : Msg} {R : List Int × Int} (h : WriteC fn dir m R) {cx : Array Value} {W : World} (hm : IsMsg W cx m) : Calls Try.prog fn #[.int .i64 dir, .agg cx] W fun en w' => ∃ A c, en = .returned (.tuple #[.slice A R.1.length c, .int .i64 R.2]) ∧ R.1.length ≤ c ∧ Kd.C (Kd.int .u8) w' A R.1.length R.1 ∧ Below W.heap.size W w' := h cx W hm
theorem WriteC.n {fn : Nat} {dir : Int} {m : Msg} {xs : List Int} {e : Int} (h : WriteC fn dir m (xs, e)) {n : Nat} (hn : xs.length = n) {cx : Array Value} {W : World} (hm : IsMsg W cx m) : Calls Try.prog fn #[.int .i64 dir, .agg cx] W fun en w' => ∃ A c, en = .returned (.tuple #[.slice A n c, .int .i64 e]) ∧ n ≤ c ∧ Kd.C (Kd.int .u8) w' A n xs ∧ Below W.heap.size W w' := by
  subst hn
  exact h cx W hm
theorem same_n {xs ys : List Int} (hx : isBytes xs) (hy : isBytes ys) {n m : Nat} (hn : xs.length = n) (hm : ys.length = m) {A B : Option Addr} {c d : Nat} {W : World} (rl : Kd.C (Kd.int .u8) W A n xs) (zl : n ≤ c) (rm : Kd.C (Kd.int .u8) W B m ys) (zm : m ≤ d) :
    Calls Try.prog 18 #[.slice A n c, .slice B m d] W fun e w' => e = .returned (.bool (xs == ys)) ∧ Below W.heap.size W w' := by
  subst hn
  subst hm
  exact R01.same_c hx hy rl zl rm zm
theorem same_e {xs ys : List Int} (hx : isBytes xs) (he : ys = xs) {n m : Nat} (hn : xs.length = n) (hm : ys.length = m) {A B : Option Addr} {c d : Nat} {W : World} (rl : Kd.C (Kd.int .u8) W A n xs) (zl : n ≤ c) (rm : Kd.C (Kd.int .u8) W B m ys) (zm : m ≤ d) :
    Calls Try.prog 18 #[.slice A n c, .slice B m d] W fun e w' => e = .returned (.bool true) ∧ Below W.heap.size W w' := by
  have h := same_n hx (he ▸ hx) hn hm rl zl rm zm
  rw [he, beq_self_eq_true] at h
  exact h
theorem ParseC.ex {fn : Nat} {dir code : Int} {bs xs : List Int} {P : Msg × Int} (h : ParseC fn dir code xs P) (he : bs = xs) : ParseC fn dir code bs P := he ▸ h
theorem AwakeC.c {fn : Nat} (h : AwakeC fn) (W : World) : Calls Try.prog fn #[] W fun en w' => en = .returned (.bool true) ∧ Below W.heap.size W w' := h W
def writeR (m : Msg) (l : List Int) (P : Msg × Int) : List Int × Int := if P.2 = 0 ∧ sameB P.1 m = true then (l, 0) else ([], 1)
theorem write_err {dir : Int} {m : Msg} {l : List Int} {P : Msg × Int} (hl : LayC 31 dir m l) (hp : ParseC 12 dir m.code l P) {cx : Array Value} {w : World} (hm : IsMsg w cx m) (he : P.2 ≠ 0) :
    Calls Try.prog 16 #[.int .i64 dir, .agg cx] w fun en w' => ∃ A c, en = .returned (.tuple #[.slice A (([] : List Int)).length c, .int .i64 1]) ∧ (([] : List Int)).length ≤ c ∧ Kd.C (Kd.int .u8) w' A (([] : List Int)).length (([] : List Int)) ∧ Below w.heap.size w w' := by
  have HL := Aside0.mk hl
  have HPC := Aside0.mk hp
  have H := Aside0.mk (Hd.start w)
  have hsz := hm.size
  have hix := msg_info hsz
  have n0_ := Aside0.mk ((((H.out.on (below_alloc (Below.refl _ _) (Obj.cells cx 30)))).add (sta_blk _ _) (blk_new _ _)).add (sta_msg _ _) (hm.on (below_alloc (Below.refl _ _) _)))
  clear H
  have H := n0_
  clear n0_
  have e0 : (P.2 == 0) = false := beq_eq_false_iff_ne.2 he
  have e1 : (P.2 != 0) = true := by rw [bne, e0]; rfl
  clear hl hp he hm
  go_enter Try.func16, Try.ntmps16
  go_upto_region 2 with (first | ((with_reducible refine gate_dst (N := 10) rfl ?_); (try (refine gate_guard (by rfl) ?_; dsimp only)); refine ev_get (x := .tmp 3) rfl rfl rfl H.out.f.1.2 H.out.f.2 ?_) | (go_at_call 31; (with_reducible refine (LayC.c HL.out H.out.f.2).mono ?_); rintro en wb ⟨Ab, cb, rfl, hz_, hr_, hb_⟩; have n0_ := Aside0.mk ((H.out.on hb_).add (sta_C _ _ _ _) (hr_)); clear H; have H := n0_; clear n0_; have Zb := Aside0.mk hz_; clear hb_ hr_ hz_))
  have kc := bx_code H.out.f.1.1.2 H.out.f.1.2
  go_upto_region 3 with (first | (go_at_call 12; (with_reducible refine (ParseC.c HPC.out H.out.f.2 Zb.out).mono ?_); rintro en wx ⟨cx2, rfl, hm_, hb_⟩; have n0_ := Aside0.mk ((H.out.on hb_).add (sta_msg _ _) (hm_)); clear H; have H := n0_; clear n0_; clear hb_ hm_) | ((with_reducible refine gate_dst (N := 7) rfl ?_); refine ev_var (y := .tmp 18) rfl rfl rfl rfl rfl H.out.f.2 rfl rfl ?_; intro gx wv hg_ h1_ hb_; have n0_ := Aside0.mk ((H.out.on hb_).add (sta_blk _ _) (h1_)); clear H; have H := n0_; clear n0_; clear h1_ hb_ hg_))
  clear kc
  go_wp2
  go_ret2
  exact ⟨none, 0, rfl, Nat.le_refl _, Kd.C_nil _ _, H.out.b⟩
theorem write_not {dir : Int} {m : Msg} {l : List Int} {P : Msg × Int} (hl : LayC 31 dir m l) (hp : ParseC 12 dir m.code l P) {cx : Array Value} {w : World} (hm : IsMsg w cx m) (he : P.2 = 0) (hs : sameB P.1 m = false) :
    Calls Try.prog 16 #[.int .i64 dir, .agg cx] w fun en w' => ∃ A c, en = .returned (.tuple #[.slice A (([] : List Int)).length c, .int .i64 1]) ∧ (([] : List Int)).length ≤ c ∧ Kd.C (Kd.int .u8) w' A (([] : List Int)).length (([] : List Int)) ∧ Below w.heap.size w w' := by
  have HL := Aside0.mk hl
  have HPC := Aside0.mk hp
  have H := Aside0.mk (Hd.start w)
  have hsz := hm.size
  have hix := msg_info hsz
  have n0_ := Aside0.mk ((((H.out.on (below_alloc (Below.refl _ _) (Obj.cells cx 30)))).add (sta_blk _ _) (blk_new _ _)).add (sta_msg _ _) (hm.on (below_alloc (Below.refl _ _) _)))
  clear H
  have H := n0_
  clear n0_
  have e0 : (P.2 == 0) = true := beq_iff_eq.2 he
  have e1 : (P.2 != 0) = false := by rw [bne, e0]; rfl
  clear hl hp he hm
  go_enter Try.func16, Try.ntmps16
  go_upto_region 2 with (first | ((with_reducible refine gate_dst (N := 10) rfl ?_); (try (refine gate_guard (by rfl) ?_; dsimp only)); refine ev_get (x := .tmp 3) rfl rfl rfl H.out.f.1.2 H.out.f.2 ?_) | (go_at_call 31; (with_reducible refine (LayC.c HL.out H.out.f.2).mono ?_); rintro en wb ⟨Ab, cb, rfl, hz_, hr_, hb_⟩; have n0_ := Aside0.mk ((H.out.on hb_).add (sta_C _ _ _ _) (hr_)); clear H; have H := n0_; clear n0_; have Zb := Aside0.mk hz_; clear hb_ hr_ hz_))
  have kc := bx_code H.out.f.1.1.2 H.out.f.1.2
  go_upto_region 3 with (first | (go_at_call 12; (with_reducible refine (ParseC.c HPC.out H.out.f.2 Zb.out).mono ?_); rintro en wx ⟨cx2, rfl, hm_, hb_⟩; have n0_ := Aside0.mk ((H.out.on hb_).add (sta_msg _ _) (hm_)); clear H; have H := n0_; clear n0_; clear hb_ hm_) | ((with_reducible refine gate_dst (N := 7) rfl ?_); refine ev_var (y := .tmp 18) rfl rfl rfl rfl rfl H.out.f.2 rfl rfl ?_; intro gx wv hg_ h1_ hb_; have n0_ := Aside0.mk ((H.out.on hb_).add (sta_blk _ _) (h1_)); clear H; have H := n0_; clear n0_; clear h1_ hb_ hg_))
  clear kc
  go_wp2_with (first | ((with_reducible refine gate_dst (N := 23) rfl ?_); (try (refine gate_guard (by rfl) ?_; dsimp only)); refine ev_get (x := .tmp 7) rfl rfl rfl H.out.f.2 H.out.f.1.2 ?_) | ((with_reducible refine gate_dst (N := 24) rfl ?_); (try (refine gate_guard (by rfl) ?_; dsimp only)); refine ev_get (x := .tmp 3) rfl rfl rfl H.out.f.1.1.1.1.2 H.out.f.1.1.1.2 ?_) | (go_at_call 32; (with_reducible refine (same_msg H.out.f.1.2 H.out.f.1.1.1.2).mono ?_); rintro en ws ⟨rfl, hb_⟩; have n0_ := Aside0.mk (H.out.on hb_); clear H; have H := n0_; clear n0_; clear hb_))
  go_ret2
  exact ⟨none, 0, rfl, Nat.le_refl _, Kd.C_nil _ _, H.out.b⟩
theorem write_yes {dir : Int} {m : Msg} {l : List Int} {P : Msg × Int} (hl : LayC 31 dir m l) (hp : ParseC 12 dir m.code l P) {cx : Array Value} {w : World} (hm : IsMsg w cx m) (he : P.2 = 0) (hs : sameB P.1 m = true) :
    Calls Try.prog 16 #[.int .i64 dir, .agg cx] w fun en w' => ∃ A c, en = .returned (.tuple #[.slice A (l).length c, .int .i64 0]) ∧ (l).length ≤ c ∧ Kd.C (Kd.int .u8) w' A (l).length (l) ∧ Below w.heap.size w w' := by
  have HL := Aside0.mk hl
  have HPC := Aside0.mk hp
  have H := Aside0.mk (Hd.start w)
  have hsz := hm.size
  have hix := msg_info hsz
  have n0_ := Aside0.mk ((((H.out.on (below_alloc (Below.refl _ _) (Obj.cells cx 30)))).add (sta_blk _ _) (blk_new _ _)).add (sta_msg _ _) (hm.on (below_alloc (Below.refl _ _) _)))
  clear H
  have H := n0_
  clear n0_
  have e0 : (P.2 == 0) = true := beq_iff_eq.2 he
  have e1 : (P.2 != 0) = false := by rw [bne, e0]; rfl
  clear hl hp he hm
  go_enter Try.func16, Try.ntmps16
  go_upto_region 2 with (first | ((with_reducible refine gate_dst (N := 10) rfl ?_); (try (refine gate_guard (by rfl) ?_; dsimp only)); refine ev_get (x := .tmp 3) rfl rfl rfl H.out.f.1.2 H.out.f.2 ?_) | (go_at_call 31; (with_reducible refine (LayC.c HL.out H.out.f.2).mono ?_); rintro en wb ⟨Ab, cb, rfl, hz_, hr_, hb_⟩; have n0_ := Aside0.mk ((H.out.on hb_).add (sta_C _ _ _ _) (hr_)); clear H; have H := n0_; clear n0_; have Zb := Aside0.mk hz_; clear hb_ hr_ hz_))
  have kc := bx_code H.out.f.1.1.2 H.out.f.1.2
  go_upto_region 3 with (first | (go_at_call 12; (with_reducible refine (ParseC.c HPC.out H.out.f.2 Zb.out).mono ?_); rintro en wx ⟨cx2, rfl, hm_, hb_⟩; have n0_ := Aside0.mk ((H.out.on hb_).add (sta_msg _ _) (hm_)); clear H; have H := n0_; clear n0_; clear hb_ hm_) | ((with_reducible refine gate_dst (N := 7) rfl ?_); refine ev_var (y := .tmp 18) rfl rfl rfl rfl rfl H.out.f.2 rfl rfl ?_; intro gx wv hg_ h1_ hb_; have n0_ := Aside0.mk ((H.out.on hb_).add (sta_blk _ _) (h1_)); clear H; have H := n0_; clear n0_; clear h1_ hb_ hg_))
  clear kc
  go_wp2_with (first | ((with_reducible refine gate_dst (N := 23) rfl ?_); (try (refine gate_guard (by rfl) ?_; dsimp only)); refine ev_get (x := .tmp 7) rfl rfl rfl H.out.f.2 H.out.f.1.2 ?_) | ((with_reducible refine gate_dst (N := 24) rfl ?_); (try (refine gate_guard (by rfl) ?_; dsimp only)); refine ev_get (x := .tmp 3) rfl rfl rfl H.out.f.1.1.1.1.2 H.out.f.1.1.1.2 ?_) | (go_at_call 32; (with_reducible refine (same_msg H.out.f.1.2 H.out.f.1.1.1.2).mono ?_); rintro en ws ⟨rfl, hb_⟩; have n0_ := Aside0.mk (H.out.on hb_); clear H; have H := n0_; clear n0_; clear hb_))
  go_ret2
  exact ⟨Ab, cb, rfl, Zb.out, H.out.f.1.1.2, H.out.b⟩
theorem write_of {dir : Int} {m : Msg} {l : List Int} {P : Msg × Int} (hl : LayC 31 dir m l) (hp : ParseC 12 dir m.code l P) : WriteC 16 dir m (writeR m l P) := by
  intro cx W hm
  unfold writeR
  by_cases he : P.2 = 0
  · cases hs : sameB P.1 m with
    | false => rw [if_neg (fun h => by cases h.2)]; exact write_not hl hp hm he hs
    | true => rw [if_pos ⟨he, rfl⟩]; exact write_yes hl hp hm he hs
  · rw [if_neg (fun h => he h.1)]; exact write_err hl hp hm he
end Go.Proofs.Ytdjeekpgcjcffaa.Com
end
section
namespace Go.Proofs.Ytdjeekpgcjcffaa.P
open Go.RowKit Go.Proofs.YtdjeekpgcjcffaaW.PrintWords Go.Proofs.YtdjeekpgcjcffaaW.PrintLast Go.Proofs.YtdjeekpgcjcffaaW.PrintMore
attribute [local go_sem] max2_int min2_int max_two min_two max_three min_three max_four min_four   -- for this text's walks alone
def word_Put.l0 : Nat → List Int → List Int → Int → Int → Option (List Int)
  | 0, _, _, _, _ => none
  | k + 1, x3, x6, x7, x8 => if x8 < x7 then (if 0 ≤ x8 then (if x8 < (x6.length : Int) then ((some (([((rd x6 x8) / 256) % 256, (rd x6 x8) % 256] : List Int) : List Int)).bind fun y113 => (if x3.length + y113.length < 140737488355328 then (word_Put.l0 k (x3 ++ y113) x6 x7 (wrap64 (x8 + 1))) else (none))) else (none)) else (none)) else (some x3)
def word_Put.f (k : Nat) (l0 : List Int) : Option (List Int) := word_Put.l0 k ([] : List Int) l0 (l0.length : Int) 0
theorem word_Put.mono_l : ∀ k, (∀ y0 y1 y2 y3, LeO (word_Put.l0 k y0 y1 y2 y3) (word_Put.l0 (k + 1) y0 y1 y2 y3))
  | 0 => fun _ _ _ _ r h => by simp [word_Put.l0] at h
  | k + 1 => by
    have ih0 := word_Put.mono_l k
    · intro y0 y1 y2 y3
      unfold word_Put.l0
      repeat' first
      | (with_reducible exact ih0 _ _ _ _)
      | (with_reducible exact LeO.refl _)
      | (with_reducible exact LeO.none _)
      | (with_reducible refine LeO.ite ?_ ?_)
      | (with_reducible refine LeO.bind ?_ (fun _ => ?_))
      | exact ih0 _ _ _ _
      | exact LeO.none _
      | refine LeO.ite ?_ ?_
      | refine LeO.bind ?_ (fun _ => ?_)
theorem word_Put.mono : ∀ a0 k, LeO (word_Put.f k a0) (word_Put.f (k + 1) a0) := by
  intro a0 k
  have ih0 := word_Put.mono_l k
  unfold word_Put.f
  repeat' first
      | (with_reducible exact ih0 _ _ _ _)
      | (with_reducible exact LeO.refl _)
      | (with_reducible exact LeO.none _)
      | (with_reducible refine LeO.ite ?_ ?_)
      | (with_reducible refine LeO.bind ?_ (fun _ => ?_))
      | exact ih0 _ _ _ _
      | exact LeO.none _
      | refine LeO.ite ?_ ?_
      | refine LeO.bind ?_ (fun _ => ?_)
theorem word_Put.calls (k : Nat) (A0 : Option Addr) (c0 : Nat) (l0 : List Int) (r : List Int) (w : World) (hr0 : Kd.C (Kd.int .u16) w A0 l0.length l0) (hc0 : l0.length ≤ c0) (h : word_Put.f k l0 = some r) :
    Calls Try.prog 49 #[.slice A0 l0.length c0] w fun e w' => ∃ v0_ : Value, e = .returned (v0_) ∧ Kd.R (Kd.int .u8) 5 w' w.heap.size (fun _ => True) v0_ r ∧ Below w.heap.size w w' := by
  have HR0 := Aside0.mk hr0
  have HC0 := Aside0.mk hc0
  clear hr0 hc0
  have HB := Aside0.mk (Below.refl w.heap.size w)
  have H : (word_Put.l0 k ([] : List Int) l0 (l0.length : Int) 0) = some r := h
  clear h
  have H' := Aside0.mk H
  clear H
  go_enter Try.func49, Try.ntmps49
  go_wp2
  go_loopg [3, 8] k (fun kq v3 v8 w' => ∃ (x3_1 : List Int) (x8_1 : Int), v8 = .int .i64 x8_1 ∧ Aside0 (word_Put.l0 kq x3_1 l0 (l0.length : Int) x8_1 = some r) ∧ Aside0 (kq ≤ k) ∧ Aside0 (Kd.R (Kd.int .u8) 5 w' w.heap.size (fun _ => True) v3 x3_1) ∧ Aside0 (Below w.heap.size w w'))
  case atStart => exact ⟨(([] : List Int)), (0), (by first | rfl | (simp; done) | (simp [*]; done)), H', ⟨Nat.le_refl _⟩, ⟨by first | exact Kd.R_nil _ _ _ _ _ | exact Kd.N_nil _ _ _ _ _ | exact Kd.V_nil _ _ _ _ _ | exact Kd.Q_nil _ _ _ _ _ | exact Kd.S_nil _ _ _ _ _⟩, ⟨by repeat (first | (with_reducible first | exact HB.out | apply below_alloc | apply pw_below_drewN | apply below_drew1) | exact HB.out)⟩⟩
  case round =>
    clear H'
    obtain ⟨x3_1, x8_1, rfl, HA, HK1, HO_3, HB⟩ := hrel
    cases gk with
    | zero => exact absurd HA.out (by simp [word_Put.l0])
    | succ k1 =>
      have H := HA.out
      clear HA
      simp only [word_Put.l0] at H
      by_cases c2 : x8_1 < (l0.length : Int)
      · rw [if_pos c2] at H
        have c2b0 : decide (x8_1 < (l0.length : Int)) = true := decide_eq_true c2
        clear c2
        by_cases c3 : 0 ≤ x8_1
        · rw [if_pos c3] at H
          have c3b0 : decide (0 ≤ x8_1) = true := decide_eq_true c3
          clear c3
          by_cases c4 : x8_1 < (l0.length : Int)
          · rw [if_pos c4] at H
            have c4b0 : decide (x8_1 < (l0.length : Int)) = true := decide_eq_true c4
            clear c4
            obtain ⟨y113, hy113⟩ : ∃ y_ : List Int, y_ = (([((rd l0 x8_1) / 256) % 256, (rd l0 x8_1) % 256] : List Int)) := ⟨_, rfl⟩
            replace H : (if x3_1.length + y113.length < 140737488355328 then (word_Put.l0 k1 (x3_1 ++ y113) l0 (l0.length : Int) (wrap64 (x8_1 + 1))) else (none)) = some r := by first | (rw [hy113]; with_reducible exact H) | (have H2_ := (Option.bind_some _ _).symm.trans H; rw [hy113]; with_reducible exact H2_) | (have H2_ := (Option.bind_some _ _).symm.trans H; with_reducible exact H2_) | with_reducible exact H | (rw [hy113]; exact H) | exact H
            have Ny113 := Aside0.mk hy113
            clear hy113
            by_cases c5 : x3_1.length + y113.length < 140737488355328
            · rw [if_pos c5] at H
              have LMc5 := Aside0.mk c5
              clear c5
              obtain ⟨y116, hy116⟩ : ∃ y_ : List Int, y_ = (x3_1 ++ y113) := ⟨_, rfl⟩
              replace H : (word_Put.l0 k1 y116 l0 (l0.length : Int) (wrap64 (x8_1 + 1))) = some r := by first | (rw [hy116]; with_reducible exact H) | (have H2_ := (Option.bind_some _ _).symm.trans H; rw [hy116]; with_reducible exact H2_) | (have H2_ := (Option.bind_some _ _).symm.trans H; with_reducible exact H2_) | with_reducible exact H | (rw [hy116]; exact H) | exact H
              have Ny116 := Aside0.mk hy116
              clear hy116
              have H' := Aside0.mk H
              clear H
              have p112 : 0 ≤ (x8_1 : Int) := of_decide_eq_true (by first | (with_reducible assumption) | assumption)
              have q112 : x8_1 < (l0.length : Int) := of_decide_eq_true (by first | (with_reducible assumption) | assumption)
              obtain ⟨ad112, e112, hx112_0⟩ := Kd.at_int HR0.out x8_1 p112 q112
              cases e112
              replace hx112_0 := (HB.out.cell (World.block_lt_of_cell? w _ hx112_0)).trans hx112_0
              replace p112 := eq_true p112
              replace q112 := eq_true q112
              go_wp2_with (first | ((with_reducible refine gate_dst (N := 18) rfl ?_); refine Kd.R_lit (Kd.int .u8) _ 5 ?hg (N := 18) ?hd (xs := ([((rd l0 x8_1) / 256) % 256, (rd l0 x8_1) % 256] : List Int)) (inner := [.int .u8 (((rd l0 x8_1) / 256) % 256), .int .u8 ((rd l0 x8_1) % 256)]) (ok := fun _ => True) (okp := fun _ => True) ?hr ?hp (fun _ hk => hk) trivial (Below.refl _ _) (Nat.le_refl _) (by simp) ?_; (case hd => rfl); (case hg => rfl); (case hr => first | (go_simp; done) | (go_simp; rfl)); (case hp => exact (Reps.one (show Kd.M (Kd.int .u8) _ _ _ (((rd l0 x8_1) / 256) % 256) [.int .u8 (((rd l0 x8_1) / 256) % 256)] from rfl) (Reps.one (show Kd.M (Kd.int .u8) _ _ _ ((rd l0 x8_1) % 256) [.int .u8 ((rd l0 x8_1) % 256)] from rfl) (Reps.none _ _)))); intro v114 w6 ho7 hb hg_ hnew_; clear hg_ hnew_; (first | rw [← Ny113.out] at ho7 | (simp only [Int.reduceToNat] at ho7; rw [← Ny113.out] at ho7)); have n0_ := Aside0.mk (Kd.R_elder' (by (with_reducible repeat (first | apply Kd.R_alloc | apply Kd.R_drewN | apply Kd.R_drew)); exact HO_3.out) (Kd.R_base ho7) hb); have n1_ := Aside0.mk (Kd.R_lower (Kd.R_new' ho7 (Kd.R_lt (by (with_reducible repeat (first | apply Kd.R_alloc | apply Kd.R_drewN | apply Kd.R_drew)); exact HO_3.out))) (below_size (by repeat (first | (with_reducible first | exact HB.out | apply below_alloc | apply pw_below_drewN | apply below_drew1) | exact HB.out)))); have n2_ := Aside0.mk (below_step (by repeat (first | (with_reducible first | exact HB.out | apply below_alloc | apply pw_below_drewN | apply below_drew1) | exact HB.out)) hb); clear HO_3; clear HB; have HO_3 := n0_; have HO115 := n1_; have HB := n2_; clear n0_ n1_ n2_; clear hb ho7; obtain ⟨Ao9, co9, eo9⟩ := Kd.R_slice HO115.out; subst eo9) | ((with_reducible refine gate_builtin (b := .append) (xs := #[.tmp 12, .tmp 18]) rfl ?_); at_builtin; refine Kd.R_append_rows (Kd.int .u8) (w0 := w) w.heap.size rfl (.tmp 12) (.tmp 18) 22 5 (.int .u8 0) 1 rfl Try.underlying22 info5 rfl (by decide) (by omega) u3 x3_1 y113 _ _ _ (fun k_ => some k_ ≠ (.slice Ao9 y113.length co9 : Value).ownBlock) (fun _ => False) rfl rfl ?aO ?aR (fun _ _ h => h) (fun _ h => h.elim) ?aF ?aB ?aS ?aL ?_; (case aR => repeat (first | exact (Kd.R_reads' HO115.out).2.2 | (with_reducible refine Kd.C_alloc ?_ _) | (with_reducible refine Kd.C_drewN ?_ _) | (with_reducible refine Kd.C_drew ?_))); (case aB => exact (by repeat (first | (with_reducible first | exact HB.out | apply below_alloc | apply pw_below_drewN | apply below_drew1) | exact HB.out))); (case aF => exact (fun k_ hk => Kd.fresh' (Kd.R_lt (by (with_reducible repeat (first | apply Kd.R_alloc | apply Kd.R_drewN | apply Kd.R_drew)); exact HO115.out)) k_ hk)); (case aO => exact (by (with_reducible repeat (first | apply Kd.R_alloc | apply Kd.R_drewN | apply Kd.R_drew)); exact Kd.R_mono HO_3.out (fun _ hk => hk.2))); (case aS => exact (below_size (by repeat (first | (with_reducible first | exact HB.out | apply below_alloc | apply pw_below_drewN | apply below_drew1) | exact HB.out)))); (case aL => have := LMc5.out; omega); intro v117 w8 ho hb hg hat; rw [← Ny116.out] at ho; have n0_ := Aside0.mk (Kd.R_after (ok := (fun _ => True)) (by (with_reducible repeat (first | apply Kd.R_alloc | apply Kd.R_drewN | apply Kd.R_drew)); exact HO115.out) hg hat); have n1_ := Aside0.mk (hb); have n2_ := Aside0.mk (ho); clear HO115; clear HB; clear HO_3; have HO115 := n0_; have HB := n1_; have HO118 := n2_; clear n0_ n1_ n2_; clear ho hb hg hat))
              go_roundg k1
              case measure => have := HK1.out; omega
              case rel => exact ⟨(y116), (wrap64 (x8_1 + 1)), (by first | rfl | (simp; done) | (simp [*]; done)), H', ⟨by have := HK1.out; omega⟩, ⟨by (with_reducible repeat (first | apply Kd.R_alloc | apply Kd.R_drewN | apply Kd.R_drew)); exact Kd.R_mono HO118.out (fun _ hk => trivial)⟩, ⟨by repeat (first | (with_reducible first | exact HB.out | apply below_alloc | apply pw_below_drewN | apply below_drew1) | exact HB.out)⟩⟩
            · rw [if_neg c5] at H
              exact absurd H (by simp)
          · rw [if_neg c4] at H
            exact absurd H (by simp)
        · rw [if_neg c3] at H
          exact absurd H (by simp)
      · rw [if_neg c2] at H
        have c2b0 : decide (x8_1 < (l0.length : Int)) = false := decide_eq_false c2
        clear c2
        obtain rfl := Option.some.inj H
        go_wp2
        go_ret
        exact ⟨_, by first | rfl | (simp [errW_none, errW_some] <;> rfl) | (simp [*, errW_none, errW_some] <;> rfl), by (with_reducible repeat (first | apply Kd.R_alloc | apply Kd.R_drewN | apply Kd.R_drew)); exact HO_3.out, by repeat (first | (with_reducible first | exact HB.out | apply below_alloc | apply pw_below_drewN | apply below_drew1) | exact HB.out)⟩
end Go.Proofs.Ytdjeekpgcjcffaa.P
end
section
namespace Go.Proofs.Ytdjeekpgcjcffaa.P
open Go.RowKit Go.Proofs.YtdjeekpgcjcffaaW.PrintWords Go.Proofs.YtdjeekpgcjcffaaW.PrintLast Go.Proofs.YtdjeekpgcjcffaaW.PrintMore
attribute [local go_sem] max2_int min2_int max_two min_two max_three min_three max_four min_four   -- for this text's walks alone
end Go.Proofs.Ytdjeekpgcjcffaa.P
end
section
namespace Go.Proofs.Ytdjeekpgcjcffaa.Put
open Go.RowKit Go.Proofs.Ytdjeekpgcjcffaa.P Go.Proofs.Ytdjeekpgcjcffaa.E Go.Proofs.Ytdjeekpgcjcffaa.Take Go.Proofs.YtdjeekpgcjcffaaW.PrintWords Go.Proofs.YtdjeekpgcjcffaaW.PrintLast Go.Proofs.YtdjeekpgcjcffaaW.PrintMore
def is16 (ws : List Int) : Prop := ∀ w ∈ ws, 0 ≤ w ∧ w < 65536
def putL : List Int → List Int
  | [] => []
  | w :: r => (w / 256) % 256 :: w % 256 :: putL r
theorem putL_length : ∀ ws : List Int, (putL ws).length = 2 * ws.length
  | [] => rfl
  | w :: r => by simp only [putL, List.length_cons, putL_length r]; omega
theorem putL_append : ∀ a b : List Int, putL (a ++ b) = putL a ++ putL b
  | [], b => rfl
  | w :: r, b => by simp only [List.cons_append, putL, putL_append r b]
theorem putL_bytes : ∀ ws : List Int, isBytes (putL ws)
  | [] => fun x h => by cases h
  | w :: r => fun x hx => by
    rcases List.mem_cons.1 hx with rfl | hx
    · omega
    rcases List.mem_cons.1 hx with rfl | hx
    · omega
    · exact putL_bytes r x hx
theorem words_cons (a b : Int) (t : List Int) (ht : t.length % 2 = 0) : words (a :: b :: t) = (a * 256 + b) :: words t := by
  unfold words
  rw [if_pos (by simp only [List.length_cons]; omega), if_pos ht, show (a :: b :: t).length / 2 = t.length / 2 + 1 by simp only [List.length_cons]; omega]
  unfold pre
  rw [List.range_succ_eq_map, List.map_cons, List.map_map]
  congr 1
theorem words_nil : words [] = [] := rfl
theorem words_putL : ∀ {ws : List Int}, is16 ws → words (putL ws) = ws
  | [], _ => rfl
  | w :: r, h => by
    have h1 := h w List.mem_cons_self
    simp only [putL]
    rw [words_cons _ _ _ (by rw [putL_length]; omega), words_putL (fun x hx => h x (List.mem_cons_of_mem _ hx)), show w / 256 % 256 * 256 + w % 256 = w by omega]
theorem words_facts : ∀ (n : Nat) (l : List Int), l.length = 2 * n → isBytes l → putL (words l) = l ∧ is16 (words l) ∧ (words l).length = n
  | 0, l, hn, _ => by
    obtain rfl : l = [] := List.eq_nil_of_length_eq_zero hn
    refine ⟨rfl, fun x hx => ?_, rfl⟩
    exact absurd hx (by rw [words_nil]; exact List.not_mem_nil)
  | n + 1, [], hn, _ => by
    simp only [List.length_nil] at hn
    omega
  | n + 1, [a], hn, _ => by
    simp only [List.length_cons, List.length_nil] at hn
    omega
  | n + 1, a :: b :: t, hn, hb => by
    have hl : t.length = 2 * n := by simp only [List.length_cons] at hn; omega
    have ha := hb a (by simp)
    have hb1 := hb b (by simp)
    obtain ⟨h1, h2, h3⟩ := words_facts n t hl (fun x hx => hb x (by simp [hx]))
    rw [words_cons a b t (by omega)]
    refine ⟨?_, ?_, by rw [List.length_cons, h3]⟩
    · simp only [putL, h1]
      rw [show (a * 256 + b) / 256 % 256 = a by omega, show (a * 256 + b) % 256 = b by omega]
    · intro x hx
      rcases List.mem_cons.1 hx with rfl | hx
      · omega
      · exact h2 x hx
theorem putL_words {l : List Int} (he : l.length % 2 = 0) (hb : isBytes l) : putL (words l) = l := (words_facts (l.length / 2) l (by omega) hb).1
theorem words_length {l : List Int} (he : l.length % 2 = 0) (hb : isBytes l) : (words l).length = l.length / 2 := (words_facts (l.length / 2) l (by omega) hb).2.2
theorem put_l0 (ws : List Int) (h : is16 ws) (hl : ws.length ≤ 1000000) : ∀ (d i : Nat), d = ws.length - i → i ≤ ws.length → word_Put.l0 (d + 1) (putL (ws.take i)) ws (ws.length : Int) (i : Int) = some (putL ws) := by
  intro d
  induction d with
  | zero =>
    intro i hd hi
    have e : i = ws.length := by omega
    subst e
    unfold word_Put.l0
    rw [if_neg (by omega), List.take_length]
  | succ d ih =>
    intro i hd hi
    have hlt : i < ws.length := by omega
    have e1 : rd ws (i : Int) = ws.getD i 0 := by simp [rd]
    have e2 : wrap64 ((i : Int) + 1) = ((i + 1 : Nat) : Int) := by rw [wrap64_id (by omega) (by omega)]; omega
    have e3 : ws.take (i + 1) = ws.take i ++ [ws.getD i 0] := by
      rw [List.take_add_one, List.getD_eq_getElem?_getD, List.getElem?_eq_getElem hlt]; rfl
    have h2 := ih (i + 1) (by omega) (by omega)
    rw [e3, putL_append] at h2
    unfold word_Put.l0
    rw [if_pos (show (i : Int) < (ws.length : Int) by omega), if_pos (show (0 : Int) ≤ (i : Int) by omega), if_pos (show (i : Int) < (ws.length : Int) by omega), e1, e2]
    simp only [Option.bind_some]
    rw [if_pos (show (putL (ws.take i)).length + [ws.getD i 0 / 256 % 256, ws.getD i 0 % 256].length < 140737488355328 by rw [putL_length, List.length_take]; simp only [List.length_cons, List.length_nil]; omega)]
    exact h2
theorem put_ev (ws : List Int) (h : is16 ws) (hl : ws.length ≤ 1000000) : Ev (fun k => word_Put.f k ws) (putL ws) := Ev.of (word_Put.mono ws) (k := ws.length + 1) (put_l0 ws h hl ws.length 0 (by omega) (by omega))
end Go.Proofs.Ytdjeekpgcjcffaa.Put
end
