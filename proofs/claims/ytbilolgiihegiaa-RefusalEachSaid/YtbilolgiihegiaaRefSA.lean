/- The reference's Same tells whether two messages are one (sameB): its regions' operations. Conditions: numbers of their kind. -/
import Derived.Test.YtbilolgiihegiaaSameWalk
import Derived.Test.YtbilolgiihegiaaRef01
set_option linter.unusedVariables false
set_option linter.unusedSimpArgs false
namespace Go.Proofs.Ytbilolgiihegiaa.Same
open Go.RowKit Go.Proofs.Ytbilolgiihegiaa.P Go.Proofs.Ytbilolgiihegiaa.E Go.Proofs.YtbilolgiihegiaaW.PrintWords Go.Proofs.YtbilolgiihegiaaW.PrintLast Go.Proofs.YtbilolgiihegiaaW.PrintMore
theorem box_x0 (w : World) (cx cy : Array Value) (t : TypeId) (j : Nat) : ((w.alloc (.cells cx t)).alloc (.cells cy t)).cell? ⟨w.heap.size, j, none⟩ = cx[j]? := by
  rw [World.cell?_alloc_lt _ _ _ (by show w.heap.size < (w.alloc (.cells cx t)).heap.size; simp)]
  unfold World.cell?
  rw [heap_alloc_new w (.cells cx t)]; rfl
theorem box_y0 (w : World) (cx cy : Array Value) (t : TypeId) (j : Nat) : ((w.alloc (.cells cx t)).alloc (.cells cy t)).cell? ⟨w.heap.size + 1, j, none⟩ = cy[j]? := by
  have h := heap_alloc_new (w.alloc (.cells cx t)) (.cells cy t)
  rw [show (w.alloc (.cells cx t)).heap.size = w.heap.size + 1 by simp] at h
  unfold World.cell?
  rw [h]; rfl
/-- wpList, shut, so that nothing unfolds it. -/
structure SD (P : Program) (O : Array Oper) (Q : Exit → Act → World → Prop) (L : List Oper) (a : Act) (W : World) : Prop where
  out : wpList P O Q L a W
section
variable {P : Program} {L : List Oper} {O : Array Oper} {o oj : Oper} {a a' : Act} {Q : Exit → Act → World → Prop} {W : World} {v : Value} {N : Option Tmp}
theorem sd_hideQ (h : ∀ Q' : Exit → Act → World → Prop, (∀ e a w, Q e a w → Q' e a w) → SD P O Q' L a W) : wpList P O Q L a W := (h Q fun _ _ _ h => h).out
theorem sd_nil (h : Q .normal a W) : SD P O Q [] a W := ⟨wpList_nil h⟩
theorem sd_val (k : Nat) (ho : L[k]? = some o) (hg : o.guard = none) (hN : o.dst = N) (hrun : (execOp a.eval o).run P W = .ok (.value v) W) (ha : a.put N v = a') (h : SD P O Q (L.drop (k + 1)) a' W) : SD P O Q (L.drop k) a W := by
  subst ha
  subst hN
  obtain ⟨hk, rfl⟩ := List.getElem?_eq_some_iff.1 ho
  refine ⟨?_⟩
  rw [List.drop_eq_getElem_cons hk]
  exact Kd.event_run hg hrun h.out
theorem sd_wanted (j s : Nat) {b b' : Bool} (hL : O.toList = L) (hg : o.guard = some (j, b)) (hj : L[j]? = some oj) (hd : oj.dst = some s) (hs : a.tmps[s]? = some (.bool b')) : Region.wanted o (yielded O a.tmps) = (b' == b) := by
  have hO : (O[j]?).bind (·.dst) = some s := by
    rw [← Array.getElem?_toList, hL, hj]; exact hd
  unfold Region.wanted
  rw [hg]
  show (yielded O a.tmps j == some b) = _
  unfold yielded
  rw [hO]
  simp only [Option.bind_some, hs]
  cases b' <;> cases b <;> rfl
theorem sd_skip (k j s : Nat) (b b' : Bool) (hL : O.toList = L) (ho : L[k]? = some o) (hj : L[j]? = some oj) (hg : o.guard = some (j, b)) (hN : o.dst = N) (hd : oj.dst = some s) (hs : a.tmps[s]? = some (.bool b')) (hb : (b' == b) = false) (ha : a.put N undef = a') (h : SD P O Q (L.drop (k + 1)) a' W) : SD P O Q (L.drop k) a W := by
  subst ha
  subst hN
  obtain ⟨hk, rfl⟩ := List.getElem?_eq_some_iff.1 ho
  refine ⟨?_⟩
  rw [List.drop_eq_getElem_cons hk]
  exact skip_guard ((sd_wanted j s hL hg hj hd hs).trans hb) h.out
theorem sd_gate (k j s : Nat) (b b' : Bool) (hL : O.toList = L) (ho : L[k]? = some o) (hj : L[j]? = some oj) (hg : o.guard = some (j, b)) (hN : o.dst = N) (hd : oj.dst = some s) (hs : a.tmps[s]? = some (.bool b')) (hb : (b' == b) = true) (hrun : (execOp a.eval { o with guard := none }).run P W = .ok (.value v) W) (ha : a.put N v = a') (h : SD P O Q (L.drop (k + 1)) a' W) : SD P O Q (L.drop k) a W := by
  subst ha
  subst hN
  obtain ⟨hk, rfl⟩ := List.getElem?_eq_some_iff.1 ho
  refine ⟨?_⟩
  rw [List.drop_eq_getElem_cons hk]
  exact gate_guard ((sd_wanted j s hL hg hj hd hs).trans hb) (Kd.event_run rfl hrun h.out)
end
noncomputable def rops1 : List Oper := (opsOf Try.f10 1).toList
theorem rops1_0 : rops1[0]? = some { dst := some 14, op := Op.fieldAddr 30 (Operand.tmp 2) 0, type := 0, pos := "ref.go:32", after := #[], guard := none } := by kernel_rfl
theorem rops1_1 : rops1[1]? = some { dst := some 15, op := Op.load 5 (Operand.tmp 14), type := 5, pos := "ref.go:32", after := #[{ on := 0, ground := Ground.data }], guard := none } := by kernel_rfl
theorem rops1_2 : rops1[2]? = some { dst := some 16, op := Op.fieldAddr 30 (Operand.tmp 3) 0, type := 0, pos := "ref.go:32", after := #[], guard := none } := by kernel_rfl
theorem rops1_3 : rops1[3]? = some { dst := some 17, op := Op.load 5 (Operand.tmp 16), type := 5, pos := "ref.go:32", after := #[{ on := 2, ground := Ground.data }], guard := none } := by kernel_rfl
theorem rops1_4 : rops1[4]? = some { dst := some 18, op := Op.binOp BinOp.neq 5 (Operand.tmp 15) (Operand.tmp 17) 5, type := 4, pos := "ref.go:32", after := #[{ on := 1, ground := Ground.data }, { on := 3, ground := Ground.data }], guard := none } := by kernel_rfl
theorem rops1_5 : rops1[5]? = some { dst := some 19, op := Op.move (Operand.tmp 18), type := 4, pos := "ref.go:32", after := #[{ on := 4, ground := Ground.data }], guard := none } := by kernel_rfl
theorem rops1_6 : rops1[6]? = some { dst := some 20, op := Op.fieldAddr 30 (Operand.tmp 2) 1, type := 0, pos := "ref.go:32", after := #[{ on := 5, ground := Ground.guard }], guard := some (5, false) } := by kernel_rfl
theorem rops1_7 : rops1[7]? = some { dst := some 21, op := Op.load 5 (Operand.tmp 20), type := 5, pos := "ref.go:32", after := #[{ on := 6, ground := Ground.data }, { on := 5, ground := Ground.guard }], guard := some (5, false) } := by kernel_rfl
theorem rops1_8 : rops1[8]? = some { dst := some 22, op := Op.fieldAddr 30 (Operand.tmp 3) 1, type := 0, pos := "ref.go:32", after := #[{ on := 5, ground := Ground.guard }], guard := some (5, false) } := by kernel_rfl
theorem rops1_9 : rops1[9]? = some { dst := some 23, op := Op.load 5 (Operand.tmp 22), type := 5, pos := "ref.go:32", after := #[{ on := 8, ground := Ground.data }, { on := 5, ground := Ground.guard }], guard := some (5, false) } := by kernel_rfl
theorem rops1_10 : rops1[10]? = some { dst := some 24, op := Op.binOp BinOp.neq 5 (Operand.tmp 21) (Operand.tmp 23) 5, type := 4, pos := "ref.go:32", after := #[{ on := 7, ground := Ground.data }, { on := 9, ground := Ground.data }, { on := 5, ground := Ground.guard }], guard := some (5, false) } := by kernel_rfl
theorem rops1_11 : rops1[11]? = some { dst := some 25, op := Op.pick (Operand.tmp 19) (Operand.const (Value.bool true)) (Operand.tmp 24), type := 4, pos := "ref.go:32", after := #[{ on := 5, ground := Ground.data }, { on := 10, ground := Ground.data }], guard := none } := by kernel_rfl
theorem rops1_12 : rops1[12]? = some { dst := some 26, op := Op.move (Operand.tmp 25), type := 4, pos := "ref.go:32", after := #[{ on := 11, ground := Ground.data }, { on := 5, ground := Ground.chain }], guard := none } := by kernel_rfl
theorem rops1_13 : rops1[13]? = some { dst := some 27, op := Op.fieldAddr 30 (Operand.tmp 2) 2, type := 0, pos := "ref.go:32", after := #[{ on := 12, ground := Ground.guard }], guard := some (12, false) } := by kernel_rfl
theorem rops1_14 : rops1[14]? = some { dst := some 28, op := Op.load 24 (Operand.tmp 27), type := 24, pos := "ref.go:32", after := #[{ on := 13, ground := Ground.data }, { on := 12, ground := Ground.guard }], guard := some (12, false) } := by kernel_rfl
theorem rops1_15 : rops1[15]? = some { dst := some 29, op := Op.fieldAddr 30 (Operand.tmp 3) 2, type := 0, pos := "ref.go:32", after := #[{ on := 12, ground := Ground.guard }], guard := some (12, false) } := by kernel_rfl
theorem rops1_16 : rops1[16]? = some { dst := some 30, op := Op.load 24 (Operand.tmp 29), type := 24, pos := "ref.go:32", after := #[{ on := 15, ground := Ground.data }, { on := 12, ground := Ground.guard }], guard := some (12, false) } := by kernel_rfl
theorem rops1_17 : rops1[17]? = some { dst := some 31, op := Op.binOp BinOp.neq 24 (Operand.tmp 28) (Operand.tmp 30) 24, type := 4, pos := "ref.go:32", after := #[{ on := 14, ground := Ground.data }, { on := 16, ground := Ground.data }, { on := 12, ground := Ground.guard }], guard := some (12, false) } := by kernel_rfl
theorem rops1_18 : rops1[18]? = some { dst := some 32, op := Op.pick (Operand.tmp 26) (Operand.const (Value.bool true)) (Operand.tmp 31), type := 4, pos := "ref.go:32", after := #[{ on := 12, ground := Ground.data }, { on := 17, ground := Ground.data }], guard := none } := by kernel_rfl
theorem rops1_19 : rops1[19]? = some { dst := some 33, op := Op.move (Operand.tmp 32), type := 4, pos := "ref.go:32", after := #[{ on := 18, ground := Ground.data }, { on := 12, ground := Ground.chain }], guard := none } := by kernel_rfl
theorem rops1_20 : rops1[20]? = some { dst := some 34, op := Op.fieldAddr 30 (Operand.tmp 2) 3, type := 0, pos := "ref.go:32", after := #[{ on := 19, ground := Ground.guard }], guard := some (19, false) } := by kernel_rfl
theorem rops1_21 : rops1[21]? = some { dst := some 35, op := Op.load 24 (Operand.tmp 34), type := 24, pos := "ref.go:32", after := #[{ on := 20, ground := Ground.data }, { on := 19, ground := Ground.guard }], guard := some (19, false) } := by kernel_rfl
theorem rops1_22 : rops1[22]? = some { dst := some 36, op := Op.fieldAddr 30 (Operand.tmp 3) 3, type := 0, pos := "ref.go:32", after := #[{ on := 19, ground := Ground.guard }], guard := some (19, false) } := by kernel_rfl
theorem rops1_23 : rops1[23]? = some { dst := some 37, op := Op.load 24 (Operand.tmp 36), type := 24, pos := "ref.go:32", after := #[{ on := 22, ground := Ground.data }, { on := 19, ground := Ground.guard }], guard := some (19, false) } := by kernel_rfl
theorem rops1_24 : rops1[24]? = some { dst := some 38, op := Op.binOp BinOp.neq 24 (Operand.tmp 35) (Operand.tmp 37) 24, type := 4, pos := "ref.go:32", after := #[{ on := 21, ground := Ground.data }, { on := 23, ground := Ground.data }, { on := 19, ground := Ground.guard }], guard := some (19, false) } := by kernel_rfl
theorem rops1_25 : rops1[25]? = some { dst := some 39, op := Op.pick (Operand.tmp 33) (Operand.const (Value.bool true)) (Operand.tmp 38), type := 4, pos := "ref.go:32", after := #[{ on := 19, ground := Ground.data }, { on := 24, ground := Ground.data }], guard := none } := by kernel_rfl
theorem rops1_26 : rops1[26]? = some { dst := some 40, op := Op.move (Operand.tmp 39), type := 4, pos := "ref.go:32", after := #[{ on := 25, ground := Ground.data }, { on := 19, ground := Ground.chain }], guard := none } := by kernel_rfl
theorem rops1_27 : rops1[27]? = some { dst := some 41, op := Op.fieldAddr 30 (Operand.tmp 2) 4, type := 0, pos := "ref.go:32", after := #[{ on := 26, ground := Ground.guard }], guard := some (26, false) } := by kernel_rfl
theorem rops1_28 : rops1[28]? = some { dst := some 42, op := Op.load 24 (Operand.tmp 41), type := 24, pos := "ref.go:32", after := #[{ on := 27, ground := Ground.data }, { on := 26, ground := Ground.guard }], guard := some (26, false) } := by kernel_rfl
theorem rops1_29 : rops1[29]? = some { dst := some 43, op := Op.fieldAddr 30 (Operand.tmp 3) 4, type := 0, pos := "ref.go:32", after := #[{ on := 26, ground := Ground.guard }], guard := some (26, false) } := by kernel_rfl
theorem rops1_30 : rops1[30]? = some { dst := some 44, op := Op.load 24 (Operand.tmp 43), type := 24, pos := "ref.go:32", after := #[{ on := 29, ground := Ground.data }, { on := 26, ground := Ground.guard }], guard := some (26, false) } := by kernel_rfl
theorem rops1_31 : rops1[31]? = some { dst := some 45, op := Op.binOp BinOp.neq 24 (Operand.tmp 42) (Operand.tmp 44) 24, type := 4, pos := "ref.go:32", after := #[{ on := 28, ground := Ground.data }, { on := 30, ground := Ground.data }, { on := 26, ground := Ground.guard }], guard := some (26, false) } := by kernel_rfl
theorem rops1_32 : rops1[32]? = some { dst := some 46, op := Op.pick (Operand.tmp 40) (Operand.const (Value.bool true)) (Operand.tmp 45), type := 4, pos := "ref.go:32", after := #[{ on := 26, ground := Ground.data }, { on := 31, ground := Ground.data }], guard := none } := by kernel_rfl
theorem rops1_33 : rops1[33]? = some { dst := some 47, op := Op.move (Operand.tmp 46), type := 4, pos := "ref.go:32", after := #[{ on := 32, ground := Ground.data }, { on := 26, ground := Ground.chain }], guard := none } := by kernel_rfl
theorem rops1_34 : rops1[34]? = some { dst := some 48, op := Op.fieldAddr 30 (Operand.tmp 2) 5, type := 0, pos := "ref.go:32", after := #[{ on := 33, ground := Ground.guard }], guard := some (33, false) } := by kernel_rfl
theorem rops1_35 : rops1[35]? = some { dst := some 49, op := Op.load 24 (Operand.tmp 48), type := 24, pos := "ref.go:32", after := #[{ on := 34, ground := Ground.data }, { on := 33, ground := Ground.guard }], guard := some (33, false) } := by kernel_rfl
theorem rops1_36 : rops1[36]? = some { dst := some 50, op := Op.fieldAddr 30 (Operand.tmp 3) 5, type := 0, pos := "ref.go:32", after := #[{ on := 33, ground := Ground.guard }], guard := some (33, false) } := by kernel_rfl
theorem rops1_37 : rops1[37]? = some { dst := some 51, op := Op.load 24 (Operand.tmp 50), type := 24, pos := "ref.go:32", after := #[{ on := 36, ground := Ground.data }, { on := 33, ground := Ground.guard }], guard := some (33, false) } := by kernel_rfl
theorem rops1_38 : rops1[38]? = some { dst := some 52, op := Op.binOp BinOp.neq 24 (Operand.tmp 49) (Operand.tmp 51) 24, type := 4, pos := "ref.go:32", after := #[{ on := 35, ground := Ground.data }, { on := 37, ground := Ground.data }, { on := 33, ground := Ground.guard }], guard := some (33, false) } := by kernel_rfl
theorem rops1_39 : rops1[39]? = some { dst := some 53, op := Op.pick (Operand.tmp 47) (Operand.const (Value.bool true)) (Operand.tmp 52), type := 4, pos := "ref.go:32", after := #[{ on := 33, ground := Ground.data }, { on := 38, ground := Ground.data }], guard := none } := by kernel_rfl
theorem rops1_40 : rops1[40]? = some { dst := some 54, op := Op.move (Operand.tmp 53), type := 4, pos := "ref.go:32", after := #[{ on := 39, ground := Ground.data }, { on := 33, ground := Ground.chain }], guard := none } := by kernel_rfl
theorem rops1_41 : rops1[41]? = some { dst := some 55, op := Op.fieldAddr 30 (Operand.tmp 2) 6, type := 0, pos := "ref.go:32", after := #[{ on := 40, ground := Ground.guard }], guard := some (40, false) } := by kernel_rfl
theorem rops1_42 : rops1[42]? = some { dst := some 56, op := Op.load 24 (Operand.tmp 55), type := 24, pos := "ref.go:32", after := #[{ on := 41, ground := Ground.data }, { on := 40, ground := Ground.guard }], guard := some (40, false) } := by kernel_rfl
theorem rops1_43 : rops1[43]? = some { dst := some 57, op := Op.fieldAddr 30 (Operand.tmp 3) 6, type := 0, pos := "ref.go:32", after := #[{ on := 40, ground := Ground.guard }], guard := some (40, false) } := by kernel_rfl
theorem rops1_44 : rops1[44]? = some { dst := some 58, op := Op.load 24 (Operand.tmp 57), type := 24, pos := "ref.go:32", after := #[{ on := 43, ground := Ground.data }, { on := 40, ground := Ground.guard }], guard := some (40, false) } := by kernel_rfl
theorem rops1_45 : rops1[45]? = some { dst := some 59, op := Op.binOp BinOp.neq 24 (Operand.tmp 56) (Operand.tmp 58) 24, type := 4, pos := "ref.go:32", after := #[{ on := 42, ground := Ground.data }, { on := 44, ground := Ground.data }, { on := 40, ground := Ground.guard }], guard := some (40, false) } := by kernel_rfl
theorem rops1_46 : rops1[46]? = some { dst := some 60, op := Op.pick (Operand.tmp 54) (Operand.const (Value.bool true)) (Operand.tmp 59), type := 4, pos := "ref.go:32", after := #[{ on := 40, ground := Ground.data }, { on := 45, ground := Ground.data }], guard := none } := by kernel_rfl
theorem rops1_47 : rops1[47]? = some { dst := some 61, op := Op.move (Operand.tmp 60), type := 4, pos := "ref.go:32", after := #[{ on := 46, ground := Ground.data }, { on := 40, ground := Ground.chain }], guard := none } := by kernel_rfl
theorem rops1_48 : rops1[48]? = some { dst := some 62, op := Op.fieldAddr 30 (Operand.tmp 2) 7, type := 0, pos := "ref.go:32", after := #[{ on := 47, ground := Ground.guard }], guard := some (47, false) } := by kernel_rfl
theorem rops1_49 : rops1[49]? = some { dst := some 63, op := Op.load 24 (Operand.tmp 62), type := 24, pos := "ref.go:32", after := #[{ on := 48, ground := Ground.data }, { on := 47, ground := Ground.guard }], guard := some (47, false) } := by kernel_rfl
theorem rops1_50 : rops1[50]? = some { dst := some 64, op := Op.fieldAddr 30 (Operand.tmp 3) 7, type := 0, pos := "ref.go:32", after := #[{ on := 47, ground := Ground.guard }], guard := some (47, false) } := by kernel_rfl
theorem rops1_51 : rops1[51]? = some { dst := some 65, op := Op.load 24 (Operand.tmp 64), type := 24, pos := "ref.go:32", after := #[{ on := 50, ground := Ground.data }, { on := 47, ground := Ground.guard }], guard := some (47, false) } := by kernel_rfl
theorem rops1_52 : rops1[52]? = some { dst := some 66, op := Op.binOp BinOp.neq 24 (Operand.tmp 63) (Operand.tmp 65) 24, type := 4, pos := "ref.go:32", after := #[{ on := 49, ground := Ground.data }, { on := 51, ground := Ground.data }, { on := 47, ground := Ground.guard }], guard := some (47, false) } := by kernel_rfl
theorem rops1_53 : rops1[53]? = some { dst := some 67, op := Op.pick (Operand.tmp 61) (Operand.const (Value.bool true)) (Operand.tmp 66), type := 4, pos := "ref.go:32", after := #[{ on := 47, ground := Ground.data }, { on := 52, ground := Ground.data }], guard := none } := by kernel_rfl
theorem rops1_54 : rops1[54]? = some { dst := some 68, op := Op.move (Operand.tmp 67), type := 4, pos := "ref.go:32", after := #[{ on := 53, ground := Ground.data }, { on := 47, ground := Ground.chain }], guard := none } := by kernel_rfl
theorem rops1_55 : rops1[55]? = some { dst := some 69, op := Op.fieldAddr 30 (Operand.tmp 2) 8, type := 0, pos := "ref.go:32", after := #[{ on := 54, ground := Ground.guard }], guard := some (54, false) } := by kernel_rfl
theorem rops1_56 : rops1[56]? = some { dst := some 70, op := Op.load 24 (Operand.tmp 69), type := 24, pos := "ref.go:32", after := #[{ on := 55, ground := Ground.data }, { on := 54, ground := Ground.guard }], guard := some (54, false) } := by kernel_rfl
theorem rops1_57 : rops1[57]? = some { dst := some 71, op := Op.fieldAddr 30 (Operand.tmp 3) 8, type := 0, pos := "ref.go:32", after := #[{ on := 54, ground := Ground.guard }], guard := some (54, false) } := by kernel_rfl
theorem rops1_58 : rops1[58]? = some { dst := some 72, op := Op.load 24 (Operand.tmp 71), type := 24, pos := "ref.go:32", after := #[{ on := 57, ground := Ground.data }, { on := 54, ground := Ground.guard }], guard := some (54, false) } := by kernel_rfl
theorem rops1_59 : rops1[59]? = some { dst := some 73, op := Op.binOp BinOp.neq 24 (Operand.tmp 70) (Operand.tmp 72) 24, type := 4, pos := "ref.go:32", after := #[{ on := 56, ground := Ground.data }, { on := 58, ground := Ground.data }, { on := 54, ground := Ground.guard }], guard := some (54, false) } := by kernel_rfl
theorem rops1_60 : rops1[60]? = some { dst := some 74, op := Op.pick (Operand.tmp 68) (Operand.const (Value.bool true)) (Operand.tmp 73), type := 4, pos := "ref.go:32", after := #[{ on := 54, ground := Ground.data }, { on := 59, ground := Ground.data }], guard := none } := by kernel_rfl
theorem rops1_61 : rops1[61]? = some { dst := some 75, op := Op.move (Operand.tmp 74), type := 4, pos := "ref.go:32", after := #[{ on := 60, ground := Ground.data }, { on := 54, ground := Ground.chain }], guard := none } := by kernel_rfl
theorem rops1_62 : rops1[62]? = some { dst := some 76, op := Op.fieldAddr 30 (Operand.tmp 2) 9, type := 0, pos := "ref.go:32", after := #[{ on := 61, ground := Ground.guard }], guard := some (61, false) } := by kernel_rfl
theorem rops1_63 : rops1[63]? = some { dst := some 77, op := Op.load 24 (Operand.tmp 76), type := 24, pos := "ref.go:32", after := #[{ on := 62, ground := Ground.data }, { on := 61, ground := Ground.guard }], guard := some (61, false) } := by kernel_rfl
theorem rops1_64 : rops1[64]? = some { dst := some 78, op := Op.fieldAddr 30 (Operand.tmp 3) 9, type := 0, pos := "ref.go:32", after := #[{ on := 61, ground := Ground.guard }], guard := some (61, false) } := by kernel_rfl
theorem rops1_65 : rops1[65]? = some { dst := some 79, op := Op.load 24 (Operand.tmp 78), type := 24, pos := "ref.go:32", after := #[{ on := 64, ground := Ground.data }, { on := 61, ground := Ground.guard }], guard := some (61, false) } := by kernel_rfl
theorem rops1_66 : rops1[66]? = some { dst := some 80, op := Op.binOp BinOp.neq 24 (Operand.tmp 77) (Operand.tmp 79) 24, type := 4, pos := "ref.go:32", after := #[{ on := 63, ground := Ground.data }, { on := 65, ground := Ground.data }, { on := 61, ground := Ground.guard }], guard := some (61, false) } := by kernel_rfl
theorem rops1_67 : rops1[67]? = some { dst := some 81, op := Op.pick (Operand.tmp 75) (Operand.const (Value.bool true)) (Operand.tmp 80), type := 4, pos := "ref.go:32", after := #[{ on := 61, ground := Ground.data }, { on := 66, ground := Ground.data }], guard := none } := by kernel_rfl
theorem rops1_68 : rops1[68]? = some { dst := some 82, op := Op.move (Operand.tmp 81), type := 4, pos := "ref.go:32", after := #[{ on := 67, ground := Ground.data }, { on := 61, ground := Ground.chain }], guard := none } := by kernel_rfl
theorem rops1_69 : rops1[69]? = some { dst := some 83, op := Op.fieldAddr 30 (Operand.tmp 2) 10, type := 0, pos := "ref.go:32", after := #[{ on := 68, ground := Ground.guard }], guard := some (68, false) } := by kernel_rfl
theorem rops1_70 : rops1[70]? = some { dst := some 84, op := Op.load 24 (Operand.tmp 83), type := 24, pos := "ref.go:32", after := #[{ on := 69, ground := Ground.data }, { on := 68, ground := Ground.guard }], guard := some (68, false) } := by kernel_rfl
theorem rops1_71 : rops1[71]? = some { dst := some 85, op := Op.fieldAddr 30 (Operand.tmp 3) 10, type := 0, pos := "ref.go:32", after := #[{ on := 68, ground := Ground.guard }], guard := some (68, false) } := by kernel_rfl
theorem rops1_72 : rops1[72]? = some { dst := some 86, op := Op.load 24 (Operand.tmp 85), type := 24, pos := "ref.go:32", after := #[{ on := 71, ground := Ground.data }, { on := 68, ground := Ground.guard }], guard := some (68, false) } := by kernel_rfl
theorem rops1_73 : rops1[73]? = some { dst := some 87, op := Op.binOp BinOp.neq 24 (Operand.tmp 84) (Operand.tmp 86) 24, type := 4, pos := "ref.go:32", after := #[{ on := 70, ground := Ground.data }, { on := 72, ground := Ground.data }, { on := 68, ground := Ground.guard }], guard := some (68, false) } := by kernel_rfl
theorem rops1_74 : rops1[74]? = some { dst := some 88, op := Op.pick (Operand.tmp 82) (Operand.const (Value.bool true)) (Operand.tmp 87), type := 4, pos := "ref.go:32", after := #[{ on := 68, ground := Ground.data }, { on := 73, ground := Ground.data }], guard := none } := by kernel_rfl
theorem rops1_75 : rops1[75]? = some { dst := some 89, op := Op.move (Operand.tmp 88), type := 4, pos := "ref.go:32", after := #[{ on := 74, ground := Ground.data }, { on := 68, ground := Ground.chain }], guard := none } := by kernel_rfl
theorem rops1_76 : rops1[76]? = some { dst := some 90, op := Op.fieldAddr 30 (Operand.tmp 2) 11, type := 0, pos := "ref.go:32", after := #[{ on := 75, ground := Ground.guard }], guard := some (75, false) } := by kernel_rfl
theorem rops1_77 : rops1[77]? = some { dst := some 91, op := Op.load 24 (Operand.tmp 90), type := 24, pos := "ref.go:32", after := #[{ on := 76, ground := Ground.data }, { on := 75, ground := Ground.guard }], guard := some (75, false) } := by kernel_rfl
theorem rops1_78 : rops1[78]? = some { dst := some 92, op := Op.fieldAddr 30 (Operand.tmp 3) 11, type := 0, pos := "ref.go:32", after := #[{ on := 75, ground := Ground.guard }], guard := some (75, false) } := by kernel_rfl
theorem rops1_79 : rops1[79]? = some { dst := some 93, op := Op.load 24 (Operand.tmp 92), type := 24, pos := "ref.go:32", after := #[{ on := 78, ground := Ground.data }, { on := 75, ground := Ground.guard }], guard := some (75, false) } := by kernel_rfl
theorem rops1_80 : rops1[80]? = some { dst := some 94, op := Op.binOp BinOp.neq 24 (Operand.tmp 91) (Operand.tmp 93) 24, type := 4, pos := "ref.go:32", after := #[{ on := 77, ground := Ground.data }, { on := 79, ground := Ground.data }, { on := 75, ground := Ground.guard }], guard := some (75, false) } := by kernel_rfl
theorem rops1_81 : rops1[81]? = some { dst := some 95, op := Op.pick (Operand.tmp 89) (Operand.const (Value.bool true)) (Operand.tmp 94), type := 4, pos := "ref.go:32", after := #[{ on := 75, ground := Ground.data }, { on := 80, ground := Ground.data }], guard := none } := by kernel_rfl
noncomputable def rops3 : List Oper := (opsOf Try.f10 3).toList
theorem rops3_0 : rops3[0]? = some { dst := some 96, op := Op.fieldAddr 30 (Operand.tmp 2) 16, type := 0, pos := "ref.go:35", after := #[], guard := none } := by kernel_rfl
theorem rops3_1 : rops3[1]? = some { dst := some 97, op := Op.load 5 (Operand.tmp 96), type := 5, pos := "ref.go:35", after := #[{ on := 0, ground := Ground.data }], guard := none } := by kernel_rfl
theorem rops3_2 : rops3[2]? = some { dst := some 98, op := Op.fieldAddr 30 (Operand.tmp 3) 16, type := 0, pos := "ref.go:35", after := #[], guard := none } := by kernel_rfl
theorem rops3_3 : rops3[3]? = some { dst := some 99, op := Op.load 5 (Operand.tmp 98), type := 5, pos := "ref.go:35", after := #[{ on := 2, ground := Ground.data }], guard := none } := by kernel_rfl
theorem rops3_4 : rops3[4]? = some { dst := some 100, op := Op.binOp BinOp.neq 5 (Operand.tmp 97) (Operand.tmp 99) 5, type := 4, pos := "ref.go:35", after := #[{ on := 1, ground := Ground.data }, { on := 3, ground := Ground.data }], guard := none } := by kernel_rfl
theorem rops3_5 : rops3[5]? = some { dst := some 101, op := Op.move (Operand.tmp 100), type := 4, pos := "ref.go:35", after := #[{ on := 4, ground := Ground.data }], guard := none } := by kernel_rfl
theorem rops3_6 : rops3[6]? = some { dst := some 102, op := Op.fieldAddr 30 (Operand.tmp 2) 17, type := 0, pos := "ref.go:35", after := #[{ on := 5, ground := Ground.guard }], guard := some (5, false) } := by kernel_rfl
theorem rops3_7 : rops3[7]? = some { dst := some 103, op := Op.load 5 (Operand.tmp 102), type := 5, pos := "ref.go:35", after := #[{ on := 6, ground := Ground.data }, { on := 5, ground := Ground.guard }], guard := some (5, false) } := by kernel_rfl
theorem rops3_8 : rops3[8]? = some { dst := some 104, op := Op.fieldAddr 30 (Operand.tmp 3) 17, type := 0, pos := "ref.go:35", after := #[{ on := 5, ground := Ground.guard }], guard := some (5, false) } := by kernel_rfl
theorem rops3_9 : rops3[9]? = some { dst := some 105, op := Op.load 5 (Operand.tmp 104), type := 5, pos := "ref.go:35", after := #[{ on := 8, ground := Ground.data }, { on := 5, ground := Ground.guard }], guard := some (5, false) } := by kernel_rfl
theorem rops3_10 : rops3[10]? = some { dst := some 106, op := Op.binOp BinOp.neq 5 (Operand.tmp 103) (Operand.tmp 105) 5, type := 4, pos := "ref.go:35", after := #[{ on := 7, ground := Ground.data }, { on := 9, ground := Ground.data }, { on := 5, ground := Ground.guard }], guard := some (5, false) } := by kernel_rfl
theorem rops3_11 : rops3[11]? = some { dst := some 107, op := Op.pick (Operand.tmp 101) (Operand.const (Value.bool true)) (Operand.tmp 106), type := 4, pos := "ref.go:35", after := #[{ on := 5, ground := Ground.data }, { on := 10, ground := Ground.data }], guard := none } := by kernel_rfl
theorem rops3_12 : rops3[12]? = some { dst := some 108, op := Op.move (Operand.tmp 107), type := 4, pos := "ref.go:35", after := #[{ on := 11, ground := Ground.data }, { on := 5, ground := Ground.chain }], guard := none } := by kernel_rfl
theorem rops3_13 : rops3[13]? = some { dst := some 109, op := Op.fieldAddr 30 (Operand.tmp 2) 18, type := 0, pos := "ref.go:35", after := #[{ on := 12, ground := Ground.guard }], guard := some (12, false) } := by kernel_rfl
theorem rops3_14 : rops3[14]? = some { dst := some 110, op := Op.load 5 (Operand.tmp 109), type := 5, pos := "ref.go:35", after := #[{ on := 13, ground := Ground.data }, { on := 12, ground := Ground.guard }], guard := some (12, false) } := by kernel_rfl
theorem rops3_15 : rops3[15]? = some { dst := some 111, op := Op.fieldAddr 30 (Operand.tmp 3) 18, type := 0, pos := "ref.go:35", after := #[{ on := 12, ground := Ground.guard }], guard := some (12, false) } := by kernel_rfl
theorem rops3_16 : rops3[16]? = some { dst := some 112, op := Op.load 5 (Operand.tmp 111), type := 5, pos := "ref.go:35", after := #[{ on := 15, ground := Ground.data }, { on := 12, ground := Ground.guard }], guard := some (12, false) } := by kernel_rfl
theorem rops3_17 : rops3[17]? = some { dst := some 113, op := Op.binOp BinOp.neq 5 (Operand.tmp 110) (Operand.tmp 112) 5, type := 4, pos := "ref.go:35", after := #[{ on := 14, ground := Ground.data }, { on := 16, ground := Ground.data }, { on := 12, ground := Ground.guard }], guard := some (12, false) } := by kernel_rfl
theorem rops3_18 : rops3[18]? = some { dst := some 114, op := Op.pick (Operand.tmp 108) (Operand.const (Value.bool true)) (Operand.tmp 113), type := 4, pos := "ref.go:35", after := #[{ on := 12, ground := Ground.data }, { on := 17, ground := Ground.data }], guard := none } := by kernel_rfl
theorem rops3_19 : rops3[19]? = some { dst := some 115, op := Op.move (Operand.tmp 114), type := 4, pos := "ref.go:35", after := #[{ on := 18, ground := Ground.data }, { on := 12, ground := Ground.chain }], guard := none } := by kernel_rfl
theorem rops3_20 : rops3[20]? = some { dst := some 116, op := Op.fieldAddr 30 (Operand.tmp 2) 19, type := 0, pos := "ref.go:35", after := #[{ on := 19, ground := Ground.guard }], guard := some (19, false) } := by kernel_rfl
theorem rops3_21 : rops3[21]? = some { dst := some 117, op := Op.load 5 (Operand.tmp 116), type := 5, pos := "ref.go:35", after := #[{ on := 20, ground := Ground.data }, { on := 19, ground := Ground.guard }], guard := some (19, false) } := by kernel_rfl
theorem rops3_22 : rops3[22]? = some { dst := some 118, op := Op.fieldAddr 30 (Operand.tmp 3) 19, type := 0, pos := "ref.go:35", after := #[{ on := 19, ground := Ground.guard }], guard := some (19, false) } := by kernel_rfl
theorem rops3_23 : rops3[23]? = some { dst := some 119, op := Op.load 5 (Operand.tmp 118), type := 5, pos := "ref.go:35", after := #[{ on := 22, ground := Ground.data }, { on := 19, ground := Ground.guard }], guard := some (19, false) } := by kernel_rfl
theorem rops3_24 : rops3[24]? = some { dst := some 120, op := Op.binOp BinOp.neq 5 (Operand.tmp 117) (Operand.tmp 119) 5, type := 4, pos := "ref.go:35", after := #[{ on := 21, ground := Ground.data }, { on := 23, ground := Ground.data }, { on := 19, ground := Ground.guard }], guard := some (19, false) } := by kernel_rfl
theorem rops3_25 : rops3[25]? = some { dst := some 121, op := Op.pick (Operand.tmp 115) (Operand.const (Value.bool true)) (Operand.tmp 120), type := 4, pos := "ref.go:35", after := #[{ on := 19, ground := Ground.data }, { on := 24, ground := Ground.data }], guard := none } := by kernel_rfl
theorem rops3_26 : rops3[26]? = some { dst := some 122, op := Op.move (Operand.tmp 121), type := 4, pos := "ref.go:35", after := #[{ on := 25, ground := Ground.data }, { on := 19, ground := Ground.chain }], guard := none } := by kernel_rfl
theorem rops3_27 : rops3[27]? = some { dst := some 123, op := Op.fieldAddr 30 (Operand.tmp 2) 20, type := 0, pos := "ref.go:35", after := #[{ on := 26, ground := Ground.guard }], guard := some (26, false) } := by kernel_rfl
theorem rops3_28 : rops3[28]? = some { dst := some 124, op := Op.load 5 (Operand.tmp 123), type := 5, pos := "ref.go:35", after := #[{ on := 27, ground := Ground.data }, { on := 26, ground := Ground.guard }], guard := some (26, false) } := by kernel_rfl
theorem rops3_29 : rops3[29]? = some { dst := some 125, op := Op.fieldAddr 30 (Operand.tmp 3) 20, type := 0, pos := "ref.go:35", after := #[{ on := 26, ground := Ground.guard }], guard := some (26, false) } := by kernel_rfl
theorem rops3_30 : rops3[30]? = some { dst := some 126, op := Op.load 5 (Operand.tmp 125), type := 5, pos := "ref.go:35", after := #[{ on := 29, ground := Ground.data }, { on := 26, ground := Ground.guard }], guard := some (26, false) } := by kernel_rfl
theorem rops3_31 : rops3[31]? = some { dst := some 127, op := Op.binOp BinOp.neq 5 (Operand.tmp 124) (Operand.tmp 126) 5, type := 4, pos := "ref.go:35", after := #[{ on := 28, ground := Ground.data }, { on := 30, ground := Ground.data }, { on := 26, ground := Ground.guard }], guard := some (26, false) } := by kernel_rfl
theorem rops3_32 : rops3[32]? = some { dst := some 128, op := Op.pick (Operand.tmp 122) (Operand.const (Value.bool true)) (Operand.tmp 127), type := 4, pos := "ref.go:35", after := #[{ on := 26, ground := Ground.data }, { on := 31, ground := Ground.data }], guard := none } := by kernel_rfl
section
variable {P : Program} {L : List Oper} {O : Array Oper} {Q : Exit → Act → World → Prop} {W : World} {a : Act} {o : Oper}
theorem put_size (a : Act) (d : Nat) (v : Value) : (a.put (some d) v).tmps.size = a.tmps.size := by simp [Act.put]
theorem put_same (a : Act) (d : Nat) (v : Value) (h : d < a.tmps.size) : (a.put (some d) v).tmps[d]? = some v := by
  simp only [Act.put]
  rw [Array.getElem?_setIfInBounds_self_of_lt h]
theorem put_other (a : Act) (d i : Nat) (v : Value) (h : i ≠ d) : (a.put (some d) v).tmps[i]? = a.tmps[i]? := by
  simp only [Act.put]
  rw [Array.getElem?_setIfInBounds_ne (Ne.symm h)]
theorem eval_of {i : Nat} {v : Value} (h : a.tmps[i]? = some v) : a.eval (.tmp i) = v := by
  simp only [Act.eval]
  rw [Array.getD_eq_getD_getElem?, h]; rfl
theorem st_val (n d : Nat) {v : Value} (ho : L[n]? = some o) (hg : o.guard = none) (hN : o.dst = some d) (hr : (execOp a.eval o).run P W = .ok (.value v) W) (hz : d < a.tmps.size)
    (h : ∀ a' : Act, a'.tmps.size = a.tmps.size → a'.defers = a.defers → (∀ i, i ≠ d → a'.tmps[i]? = a.tmps[i]?) → a'.tmps[d]? = some v → SD P O Q (L.drop (n + 1)) a' W) : SD P O Q (L.drop n) a W := by
  refine sd_val n ho hg hN hr rfl (h _ (put_size _ _ _) rfl (fun i hi => put_other _ _ _ _ hi) (put_same _ _ _ hz))
theorem st_gate (n g d s : Nat) {v : Value} {og : Oper} (hL : O.toList = L) (ho : L[n]? = some o) (hj : L[g]? = some og) (hg : o.guard = some (g, false)) (hN : o.dst = some d) (hd : og.dst = some s) (hs : a.tmps[s]? = some (.bool false)) (hr : (execOp a.eval { o with guard := none }).run P W = .ok (.value v) W) (hz : d < a.tmps.size)
    (h : ∀ a' : Act, a'.tmps.size = a.tmps.size → a'.defers = a.defers → (∀ i, i ≠ d → a'.tmps[i]? = a.tmps[i]?) → a'.tmps[d]? = some v → SD P O Q (L.drop (n + 1)) a' W) : SD P O Q (L.drop n) a W := by
  refine sd_gate n g s false false hL ho hj hg hN hd hs rfl hr rfl (h _ (put_size _ _ _) rfl (fun i hi => put_other _ _ _ _ hi) (put_same _ _ _ hz))
theorem st_skip (n g d s : Nat) {og : Oper} (hL : O.toList = L) (ho : L[n]? = some o) (hj : L[g]? = some og) (hg : o.guard = some (g, false)) (hN : o.dst = some d) (hd : og.dst = some s) (hs : a.tmps[s]? = some (.bool true)) (hz : d < a.tmps.size)
    (h : ∀ a' : Act, a'.tmps.size = a.tmps.size → a'.defers = a.defers → (∀ i, i ≠ d → a'.tmps[i]? = a.tmps[i]?) → a'.tmps[d]? = some undef → SD P O Q (L.drop (n + 1)) a' W) : SD P O Q (L.drop n) a W := by
  refine sd_skip n g s false true hL ho hj hg hN hd hs rfl rfl (h _ (put_size _ _ _) rfl (fun i hi => put_other _ _ _ _ hi) (put_same _ _ _ hz))
structure Seg (L : List Oper) (n g d : Nat) (o0 o1 o2 o3 o4 o5 og : Oper) : Prop where
  h0 : L[n]? = some o0
  h1 : L[n + 1]? = some o1
  h2 : L[n + 2]? = some o2
  h3 : L[n + 3]? = some o3
  h4 : L[n + 4]? = some o4
  h5 : L[n + 5]? = some o5
  hg : L[g]? = some og
  g0 : o0.guard = some (g, false)
  g1 : o1.guard = some (g, false)
  g2 : o2.guard = some (g, false)
  g3 : o3.guard = some (g, false)
  g4 : o4.guard = some (g, false)
  g5 : o5.guard = none
  d0 : o0.dst = some (d + 1)
  d1 : o1.dst = some (d + 2)
  d2 : o2.dst = some (d + 3)
  d3 : o3.dst = some (d + 4)
  d4 : o4.dst = some (d + 5)
  d5 : o5.dst = some (d + 6)
  dg : og.dst = some d
/-- What a segment's operations answer: two fields' places, their values, whether they differ, and that or what was before. -/
structure SegRuns (P : Program) (W : World) (d : Nat) (px py : Value) (r : Bool) (o0 o1 o2 o3 o4 o5 : Oper) : Prop where
  e : ∃ v0 v1 v2 v3 : Value, (∀ ev, ev (.tmp 2) = px → (execOp ev { o0 with guard := none }).run P W = .ok (.value v0) W) ∧ (∀ ev, ev (.tmp (d + 1)) = v0 → (execOp ev { o1 with guard := none }).run P W = .ok (.value v1) W) ∧
    (∀ ev, ev (.tmp 3) = py → (execOp ev { o2 with guard := none }).run P W = .ok (.value v2) W) ∧ (∀ ev, ev (.tmp (d + 3)) = v2 → (execOp ev { o3 with guard := none }).run P W = .ok (.value v3) W) ∧
    (∀ ev, ev (.tmp (d + 2)) = v1 → ev (.tmp (d + 4)) = v3 → (execOp ev { o4 with guard := none }).run P W = .ok (.value (.bool r)) W)
  p1 : ∀ ev, ev (.tmp d) = .bool true → ev (.const (.bool true)) = .bool true → (execOp ev o5).run P W = .ok (.value (.bool true)) W
  p2 : ∀ ev c, ev (.tmp d) = .bool false → ev (.tmp (d + 5)) = .bool c → (execOp ev o5).run P W = .ok (.value (.bool c)) W
theorem seg (n g d : Nat) {o0 o1 o2 o3 o4 o5 og : Oper} (v r : Bool) {px py : Value} (hL : O.toList = L) (H : Seg L n g d o0 o1 o2 o3 o4 o5 og) (R : SegRuns P W d px py r o0 o1 o2 o3 o4 o5)
    (hd : 3 < d) (hz : d + 6 < a.tmps.size) (hx : a.tmps[2]? = some px) (hy : a.tmps[3]? = some py) (hs : a.tmps[d]? = some (.bool v))
    (h : ∀ a' : Act, a'.tmps.size = a.tmps.size → a'.defers = a.defers → a'.tmps[2]? = some px → a'.tmps[3]? = some py → a'.tmps[d + 6]? = some (.bool (v || r)) → SD P O Q (L.drop (n + 6)) a' W) : SD P O Q (L.drop n) a W := by
  obtain ⟨v0, v1, v2, v3, e0, e1, e2, e3, e4⟩ := R.e
  have n1 : d ≠ d + 1 := by omega
  have n2 : d ≠ d + 2 := by omega
  have n3 : d ≠ d + 3 := by omega
  have n4 : d ≠ d + 4 := by omega
  have n5 : d ≠ d + 5 := by omega
  cases v with
  | true =>
    refine st_skip n g (d + 1) d hL H.h0 H.hg H.g0 H.d0 H.dg hs (by omega) fun a1 z1 f1 k1 v1 => ?_
    have s1 := (k1 d n1).trans hs
    refine st_skip (n + 1) g (d + 2) d hL H.h1 H.hg H.g1 H.d1 H.dg s1 (by omega) fun a2 z2 f2 k2 v2 => ?_
    have s2 := (k2 d n2).trans s1
    refine st_skip (n + 2) g (d + 3) d hL H.h2 H.hg H.g2 H.d2 H.dg s2 (by omega) fun a3 z3 f3 k3 v3 => ?_
    have s3 := (k3 d n3).trans s2
    refine st_skip (n + 3) g (d + 4) d hL H.h3 H.hg H.g3 H.d3 H.dg s3 (by omega) fun a4 z4 f4 k4 v4 => ?_
    have s4 := (k4 d n4).trans s3
    refine st_skip (n + 4) g (d + 5) d hL H.h4 H.hg H.g4 H.d4 H.dg s4 (by omega) fun a5 z5 f5 k5 v5 => ?_
    have s5 := (k5 d n5).trans s4
    refine st_val (n + 5) (d + 6) H.h5 H.g5 H.d5 (R.p1 _ (eval_of s5) rfl) (by omega) fun a6 z6 f6 k6 v6 => ?_
    refine h a6 (by omega) (by rw [f6, f5, f4, f3, f2, f1]) ?_ ?_ v6
    · rw [k6 2 (by omega), k5 2 (by omega), k4 2 (by omega), k3 2 (by omega), k2 2 (by omega), k1 2 (by omega)]; exact hx
    · rw [k6 3 (by omega), k5 3 (by omega), k4 3 (by omega), k3 3 (by omega), k2 3 (by omega), k1 3 (by omega)]; exact hy
  | false =>
    refine st_gate n g (d + 1) d hL H.h0 H.hg H.g0 H.d0 H.dg hs (e0 _ (eval_of hx)) (by omega) fun a1 z1 f1 k1 w1 => ?_
    have s1 := (k1 d n1).trans hs
    refine st_gate (n + 1) g (d + 2) d hL H.h1 H.hg H.g1 H.d1 H.dg s1 (e1 _ (eval_of w1)) (by omega) fun a2 z2 f2 k2 w2 => ?_
    have s2 := (k2 d n2).trans s1
    have y2 : a2.tmps[3]? = some py := by rw [k2 3 (by omega), k1 3 (by omega)]; exact hy
    refine st_gate (n + 2) g (d + 3) d hL H.h2 H.hg H.g2 H.d2 H.dg s2 (e2 _ (eval_of y2)) (by omega) fun a3 z3 f3 k3 w3 => ?_
    have s3 := (k3 d n3).trans s2
    refine st_gate (n + 3) g (d + 4) d hL H.h3 H.hg H.g3 H.d3 H.dg s3 (e3 _ (eval_of w3)) (by omega) fun a4 z4 f4 k4 w4 => ?_
    have s4 := (k4 d n4).trans s3
    have x4 : a4.tmps[d + 2]? = some v1 := by rw [k4 (d + 2) (by omega), k3 (d + 2) (by omega)]; exact w2
    refine st_gate (n + 4) g (d + 5) d hL H.h4 H.hg H.g4 H.d4 H.dg s4 (e4 _ (eval_of x4) (eval_of w4)) (by omega) fun a5 z5 f5 k5 w5 => ?_
    have s5 := (k5 d n5).trans s4
    refine st_val (n + 5) (d + 6) H.h5 H.g5 H.d5 (R.p2 _ r (eval_of s5) (eval_of w5)) (by omega) fun a6 z6 f6 k6 w6 => ?_
    refine h a6 (by omega) (by rw [f6, f5, f4, f3, f2, f1]) ?_ ?_ w6
    · rw [k6 2 (by omega), k5 2 (by omega), k4 2 (by omega), k3 2 (by omega), k2 2 (by omega), k1 2 (by omega)]; exact hx
    · rw [k6 3 (by omega), k5 3 (by omega), k4 3 (by omega), k3 3 (by omega), k2 3 (by omega), k1 3 (by omega)]; exact hy
/-- A value moved on. -/
theorem seg_move (n d : Nat) {om : Oper} {v : Value} {px py : Value} (hm : L[n]? = some om) (hg : om.guard = none) (hd : om.dst = some (d + 1)) (he : ∀ ev, ev (.tmp d) = v → (execOp ev om).run P W = .ok (.value v) W) (h3 : 3 < d) (hz : d + 1 < a.tmps.size)
    (hx : a.tmps[2]? = some px) (hy : a.tmps[3]? = some py) (hs : a.tmps[d]? = some v)
    (h : ∀ a' : Act, a'.tmps.size = a.tmps.size → a'.defers = a.defers → a'.tmps[2]? = some px → a'.tmps[3]? = some py → a'.tmps[d + 1]? = some v → SD P O Q (L.drop (n + 1)) a' W) : SD P O Q (L.drop n) a W := by
  refine st_val n (d + 1) hm hg hd (he _ (eval_of hs)) hz fun a1 z1 f1 k1 w1 => ?_
  exact h a1 z1 f1 ((k1 2 (by omega)).trans hx) ((k1 3 (by omega)).trans hy) w1
/-- The first segment: no guard yet. -/
theorem seg0 (d : Nat) {o0 o1 o2 o3 o4 : Oper} {px py : Value} {r : Bool} (h0 : L[0]? = some o0) (h1 : L[1]? = some o1) (h2 : L[2]? = some o2) (h3 : L[3]? = some o3) (h4 : L[4]? = some o4)
    (g0 : o0.guard = none) (g1 : o1.guard = none) (g2 : o2.guard = none) (g3 : o3.guard = none) (g4 : o4.guard = none) (d0 : o0.dst = some (d + 1)) (d1 : o1.dst = some (d + 2)) (d2 : o2.dst = some (d + 3)) (d3 : o3.dst = some (d + 4)) (d4 : o4.dst = some (d + 5))
    (e : ∃ v0 v1 v2 v3 : Value, (∀ ev, ev (.tmp 2) = px → (execOp ev o0).run P W = .ok (.value v0) W) ∧ (∀ ev, ev (.tmp (d + 1)) = v0 → (execOp ev o1).run P W = .ok (.value v1) W) ∧
    (∀ ev, ev (.tmp 3) = py → (execOp ev o2).run P W = .ok (.value v2) W) ∧ (∀ ev, ev (.tmp (d + 3)) = v2 → (execOp ev o3).run P W = .ok (.value v3) W) ∧
    (∀ ev, ev (.tmp (d + 2)) = v1 → ev (.tmp (d + 4)) = v3 → (execOp ev o4).run P W = .ok (.value (.bool r)) W))
    (hd : 3 < d) (hz : d + 5 < a.tmps.size) (hx : a.tmps[2]? = some px) (hy : a.tmps[3]? = some py)
    (h : ∀ a' : Act, a'.tmps.size = a.tmps.size → a'.defers = a.defers → a'.tmps[2]? = some px → a'.tmps[3]? = some py → a'.tmps[d + 5]? = some (.bool r) → SD P O Q (L.drop 5) a' W) : SD P O Q (L.drop 0) a W := by
  obtain ⟨v0, v1, v2, v3, e0, e1, e2, e3, e4⟩ := e
  refine st_val 0 (d + 1) h0 g0 d0 (e0 _ (eval_of hx)) (by omega) fun a1 z1 f1 k1 w1 => ?_
  refine st_val 1 (d + 2) h1 g1 d1 (e1 _ (eval_of w1)) (by omega) fun a2 z2 f2 k2 w2 => ?_
  have y2 : a2.tmps[3]? = some py := by rw [k2 3 (by omega), k1 3 (by omega)]; exact hy
  refine st_val 2 (d + 3) h2 g2 d2 (e2 _ (eval_of y2)) (by omega) fun a3 z3 f3 k3 w3 => ?_
  refine st_val 3 (d + 4) h3 g3 d3 (e3 _ (eval_of w3)) (by omega) fun a4 z4 f4 k4 w4 => ?_
  have x4 : a4.tmps[d + 2]? = some v1 := by rw [k4 (d + 2) (by omega), k3 (d + 2) (by omega)]; exact w2
  refine st_val 4 (d + 5) h4 g4 d4 (e4 _ (eval_of x4) (eval_of w4)) (by omega) fun a5 z5 f5 k5 w5 => ?_
  refine h a5 (by omega) (by rw [f5, f4, f3, f2, f1]) ?_ ?_ w5
  · rw [k5 2 (by omega), k4 2 (by omega), k3 2 (by omega), k2 2 (by omega), k1 2 (by omega)]; exact hx
  · rw [k5 3 (by omega), k4 3 (by omega), k3 3 (by omega), k2 3 (by omega), k1 3 (by omega)]; exact hy
end
set_option maxHeartbeats 4000000 in
set_option maxRecDepth 100000 in
theorem reg1_any (x y : Msg) (w wc : World) (Q : Exit → Act → World → Prop) (a : Act) (px0 : wc.cell? ⟨w.heap.size, 0, none⟩ = some (.int .u8 x.code)) (py0 : wc.cell? ⟨w.heap.size + 1, 0, none⟩ = some (.int .u8 y.code)) (px1 : wc.cell? ⟨w.heap.size, 1, none⟩ = some (.int .u8 x.fail)) (py1 : wc.cell? ⟨w.heap.size + 1, 1, none⟩ = some (.int .u8 y.fail)) (px2 : wc.cell? ⟨w.heap.size, 2, none⟩ = some (.int .u16 x.addr)) (py2 : wc.cell? ⟨w.heap.size + 1, 2, none⟩ = some (.int .u16 y.addr)) (px3 : wc.cell? ⟨w.heap.size, 3, none⟩ = some (.int .u16 x.count)) (py3 : wc.cell? ⟨w.heap.size + 1, 3, none⟩ = some (.int .u16 y.count)) (px4 : wc.cell? ⟨w.heap.size, 4, none⟩ = some (.int .u16 x.value)) (py4 : wc.cell? ⟨w.heap.size + 1, 4, none⟩ = some (.int .u16 y.value)) (px5 : wc.cell? ⟨w.heap.size, 5, none⟩ = some (.int .u16 x.and_)) (py5 : wc.cell? ⟨w.heap.size + 1, 5, none⟩ = some (.int .u16 y.and_)) (px6 : wc.cell? ⟨w.heap.size, 6, none⟩ = some (.int .u16 x.or_)) (py6 : wc.cell? ⟨w.heap.size + 1, 6, none⟩ = some (.int .u16 y.or_)) (px7 : wc.cell? ⟨w.heap.size, 7, none⟩ = some (.int .u16 x.addr2)) (py7 : wc.cell? ⟨w.heap.size + 1, 7, none⟩ = some (.int .u16 y.addr2)) (px8 : wc.cell? ⟨w.heap.size, 8, none⟩ = some (.int .u16 x.sub)) (py8 : wc.cell? ⟨w.heap.size + 1, 8, none⟩ = some (.int .u16 y.sub)) (px9 : wc.cell? ⟨w.heap.size, 9, none⟩ = some (.int .u16 x.status)) (py9 : wc.cell? ⟨w.heap.size + 1, 9, none⟩ = some (.int .u16 y.status)) (px10 : wc.cell? ⟨w.heap.size, 10, none⟩ = some (.int .u16 x.events)) (py10 : wc.cell? ⟨w.heap.size + 1, 10, none⟩ = some (.int .u16 y.events)) (px11 : wc.cell? ⟨w.heap.size, 11, none⟩ = some (.int .u16 x.messages)) (py11 : wc.cell? ⟨w.heap.size + 1, 11, none⟩ = some (.int .u16 y.messages)) (hs : a.tmps.size = 254) (hx : a.tmps[2]? = some (.pointer (some ⟨w.heap.size, 0, none⟩))) (hy : a.tmps[3]? = some (.pointer (some ⟨w.heap.size + 1, 0, none⟩)))
    (h : ∀ a' : Act, a'.tmps.size = 254 → a'.defers = a.defers → a'.tmps[2]? = some (.pointer (some ⟨w.heap.size, 0, none⟩)) → a'.tmps[3]? = some (.pointer (some ⟨w.heap.size + 1, 0, none⟩)) → a'.tmps[95]? = some (.bool ((x.code != y.code) || (x.fail != y.fail) || (x.addr != y.addr) || (x.count != y.count) || (x.value != y.value) || (x.and_ != y.and_) || (x.or_ != y.or_) || (x.addr2 != y.addr2) || (x.sub != y.sub) || (x.status != y.status) || (x.events != y.events) || (x.messages != y.messages))) → Q .normal a' wc) : wpList Try.prog (opsOf Try.f10 1) Q (opsOf Try.f10 1).toList a wc := by
  have hu1 := Try.underlying30
  have hL : (opsOf Try.f10 1).toList = rops1 := rfl
  suffices hS : SD Try.prog (opsOf Try.f10 1) Q (rops1.drop 0) a wc from hS.out
  refine seg0 (r := (x.code != y.code)) 13 rops1_0 rops1_1 rops1_2 rops1_3 rops1_4 rfl rfl rfl rfl rfl rfl rfl rfl rfl rfl ?_ (by omega) (by omega) hx hy fun a1 z1 f1 x1 y1 w1 => ?_
  · exact ⟨.pointer (some (⟨w.heap.size, 0, none⟩ : Addr)), .int .u8 x.code, .pointer (some (⟨w.heap.size + 1, 0, none⟩ : Addr)), .int .u8 y.code, fun ev (h : ev (.tmp 2) = .pointer (some (⟨w.heap.size, 0, none⟩ : Addr))) => by go_simp, fun ev (h1 : ev (.tmp 14) = .pointer (some (⟨w.heap.size, 0, none⟩ : Addr))) => by go_simp, fun ev (h : ev (.tmp 3) = .pointer (some (⟨w.heap.size + 1, 0, none⟩ : Addr))) => by go_simp, fun ev (h3 : ev (.tmp 16) = .pointer (some (⟨w.heap.size + 1, 0, none⟩ : Addr))) => by go_simp, fun ev (h2 : ev (.tmp 15) = .int .u8 x.code) (h4 : ev (.tmp 17) = .int .u8 y.code) => by go_simp⟩
  refine seg_move 5 18 rops1_5 rfl rfl (fun ev (h : ev (.tmp 18) = _) => by go_simp) (by omega) (by omega) x1 y1 w1 fun a2 z2 f2 x2 y2 w2 => ?_
  refine seg 6 5 19 ((x.code != y.code)) (x.fail != y.fail) hL ⟨rops1_6, rops1_7, rops1_8, rops1_9, rops1_10, rops1_11, rops1_5, rfl, rfl, rfl, rfl, rfl, rfl, rfl, rfl, rfl, rfl, rfl, rfl, rfl⟩ ⟨?_, fun ev (h : ev (.tmp 19) = _) (hc : ev (.const (.bool true)) = _) => by go_simp, fun ev c (h : ev (.tmp 19) = _) (h2 : ev (.tmp 24) = _) => by go_simp⟩ (by omega) (by omega) x2 y2 w2 fun a3 z3 f3 x3 y3 w3 => ?_
  · exact ⟨.pointer (some (⟨w.heap.size, 1, none⟩ : Addr)), .int .u8 x.fail, .pointer (some (⟨w.heap.size + 1, 1, none⟩ : Addr)), .int .u8 y.fail, fun ev (h : ev (.tmp 2) = .pointer (some (⟨w.heap.size, 0, none⟩ : Addr))) => by go_simp, fun ev (h1 : ev (.tmp 20) = .pointer (some (⟨w.heap.size, 1, none⟩ : Addr))) => by go_simp, fun ev (h : ev (.tmp 3) = .pointer (some (⟨w.heap.size + 1, 0, none⟩ : Addr))) => by go_simp, fun ev (h3 : ev (.tmp 22) = .pointer (some (⟨w.heap.size + 1, 1, none⟩ : Addr))) => by go_simp, fun ev (h2 : ev (.tmp 21) = .int .u8 x.fail) (h4 : ev (.tmp 23) = .int .u8 y.fail) => by go_simp⟩
  refine seg_move 12 25 rops1_12 rfl rfl (fun ev (h : ev (.tmp 25) = _) => by go_simp) (by omega) (by omega) x3 y3 w3 fun a4 z4 f4 x4 y4 w4 => ?_
  refine seg 13 12 26 ((x.code != y.code) || (x.fail != y.fail)) (x.addr != y.addr) hL ⟨rops1_13, rops1_14, rops1_15, rops1_16, rops1_17, rops1_18, rops1_12, rfl, rfl, rfl, rfl, rfl, rfl, rfl, rfl, rfl, rfl, rfl, rfl, rfl⟩ ⟨?_, fun ev (h : ev (.tmp 26) = _) (hc : ev (.const (.bool true)) = _) => by go_simp, fun ev c (h : ev (.tmp 26) = _) (h2 : ev (.tmp 31) = _) => by go_simp⟩ (by omega) (by omega) x4 y4 w4 fun a5 z5 f5 x5 y5 w5 => ?_
  · exact ⟨.pointer (some (⟨w.heap.size, 2, none⟩ : Addr)), .int .u16 x.addr, .pointer (some (⟨w.heap.size + 1, 2, none⟩ : Addr)), .int .u16 y.addr, fun ev (h : ev (.tmp 2) = .pointer (some (⟨w.heap.size, 0, none⟩ : Addr))) => by go_simp, fun ev (h1 : ev (.tmp 27) = .pointer (some (⟨w.heap.size, 2, none⟩ : Addr))) => by go_simp, fun ev (h : ev (.tmp 3) = .pointer (some (⟨w.heap.size + 1, 0, none⟩ : Addr))) => by go_simp, fun ev (h3 : ev (.tmp 29) = .pointer (some (⟨w.heap.size + 1, 2, none⟩ : Addr))) => by go_simp, fun ev (h2 : ev (.tmp 28) = .int .u16 x.addr) (h4 : ev (.tmp 30) = .int .u16 y.addr) => by go_simp⟩
  refine seg_move 19 32 rops1_19 rfl rfl (fun ev (h : ev (.tmp 32) = _) => by go_simp) (by omega) (by omega) x5 y5 w5 fun a6 z6 f6 x6 y6 w6 => ?_
  refine seg 20 19 33 ((x.code != y.code) || (x.fail != y.fail) || (x.addr != y.addr)) (x.count != y.count) hL ⟨rops1_20, rops1_21, rops1_22, rops1_23, rops1_24, rops1_25, rops1_19, rfl, rfl, rfl, rfl, rfl, rfl, rfl, rfl, rfl, rfl, rfl, rfl, rfl⟩ ⟨?_, fun ev (h : ev (.tmp 33) = _) (hc : ev (.const (.bool true)) = _) => by go_simp, fun ev c (h : ev (.tmp 33) = _) (h2 : ev (.tmp 38) = _) => by go_simp⟩ (by omega) (by omega) x6 y6 w6 fun a7 z7 f7 x7 y7 w7 => ?_
  · exact ⟨.pointer (some (⟨w.heap.size, 3, none⟩ : Addr)), .int .u16 x.count, .pointer (some (⟨w.heap.size + 1, 3, none⟩ : Addr)), .int .u16 y.count, fun ev (h : ev (.tmp 2) = .pointer (some (⟨w.heap.size, 0, none⟩ : Addr))) => by go_simp, fun ev (h1 : ev (.tmp 34) = .pointer (some (⟨w.heap.size, 3, none⟩ : Addr))) => by go_simp, fun ev (h : ev (.tmp 3) = .pointer (some (⟨w.heap.size + 1, 0, none⟩ : Addr))) => by go_simp, fun ev (h3 : ev (.tmp 36) = .pointer (some (⟨w.heap.size + 1, 3, none⟩ : Addr))) => by go_simp, fun ev (h2 : ev (.tmp 35) = .int .u16 x.count) (h4 : ev (.tmp 37) = .int .u16 y.count) => by go_simp⟩
  refine seg_move 26 39 rops1_26 rfl rfl (fun ev (h : ev (.tmp 39) = _) => by go_simp) (by omega) (by omega) x7 y7 w7 fun a8 z8 f8 x8 y8 w8 => ?_
  refine seg 27 26 40 ((x.code != y.code) || (x.fail != y.fail) || (x.addr != y.addr) || (x.count != y.count)) (x.value != y.value) hL ⟨rops1_27, rops1_28, rops1_29, rops1_30, rops1_31, rops1_32, rops1_26, rfl, rfl, rfl, rfl, rfl, rfl, rfl, rfl, rfl, rfl, rfl, rfl, rfl⟩ ⟨?_, fun ev (h : ev (.tmp 40) = _) (hc : ev (.const (.bool true)) = _) => by go_simp, fun ev c (h : ev (.tmp 40) = _) (h2 : ev (.tmp 45) = _) => by go_simp⟩ (by omega) (by omega) x8 y8 w8 fun a9 z9 f9 x9 y9 w9 => ?_
  · exact ⟨.pointer (some (⟨w.heap.size, 4, none⟩ : Addr)), .int .u16 x.value, .pointer (some (⟨w.heap.size + 1, 4, none⟩ : Addr)), .int .u16 y.value, fun ev (h : ev (.tmp 2) = .pointer (some (⟨w.heap.size, 0, none⟩ : Addr))) => by go_simp, fun ev (h1 : ev (.tmp 41) = .pointer (some (⟨w.heap.size, 4, none⟩ : Addr))) => by go_simp, fun ev (h : ev (.tmp 3) = .pointer (some (⟨w.heap.size + 1, 0, none⟩ : Addr))) => by go_simp, fun ev (h3 : ev (.tmp 43) = .pointer (some (⟨w.heap.size + 1, 4, none⟩ : Addr))) => by go_simp, fun ev (h2 : ev (.tmp 42) = .int .u16 x.value) (h4 : ev (.tmp 44) = .int .u16 y.value) => by go_simp⟩
  refine seg_move 33 46 rops1_33 rfl rfl (fun ev (h : ev (.tmp 46) = _) => by go_simp) (by omega) (by omega) x9 y9 w9 fun a10 z10 f10 x10 y10 w10 => ?_
  refine seg 34 33 47 ((x.code != y.code) || (x.fail != y.fail) || (x.addr != y.addr) || (x.count != y.count) || (x.value != y.value)) (x.and_ != y.and_) hL ⟨rops1_34, rops1_35, rops1_36, rops1_37, rops1_38, rops1_39, rops1_33, rfl, rfl, rfl, rfl, rfl, rfl, rfl, rfl, rfl, rfl, rfl, rfl, rfl⟩ ⟨?_, fun ev (h : ev (.tmp 47) = _) (hc : ev (.const (.bool true)) = _) => by go_simp, fun ev c (h : ev (.tmp 47) = _) (h2 : ev (.tmp 52) = _) => by go_simp⟩ (by omega) (by omega) x10 y10 w10 fun a11 z11 f11 x11 y11 w11 => ?_
  · exact ⟨.pointer (some (⟨w.heap.size, 5, none⟩ : Addr)), .int .u16 x.and_, .pointer (some (⟨w.heap.size + 1, 5, none⟩ : Addr)), .int .u16 y.and_, fun ev (h : ev (.tmp 2) = .pointer (some (⟨w.heap.size, 0, none⟩ : Addr))) => by go_simp, fun ev (h1 : ev (.tmp 48) = .pointer (some (⟨w.heap.size, 5, none⟩ : Addr))) => by go_simp, fun ev (h : ev (.tmp 3) = .pointer (some (⟨w.heap.size + 1, 0, none⟩ : Addr))) => by go_simp, fun ev (h3 : ev (.tmp 50) = .pointer (some (⟨w.heap.size + 1, 5, none⟩ : Addr))) => by go_simp, fun ev (h2 : ev (.tmp 49) = .int .u16 x.and_) (h4 : ev (.tmp 51) = .int .u16 y.and_) => by go_simp⟩
  refine seg_move 40 53 rops1_40 rfl rfl (fun ev (h : ev (.tmp 53) = _) => by go_simp) (by omega) (by omega) x11 y11 w11 fun a12 z12 f12 x12 y12 w12 => ?_
  refine seg 41 40 54 ((x.code != y.code) || (x.fail != y.fail) || (x.addr != y.addr) || (x.count != y.count) || (x.value != y.value) || (x.and_ != y.and_)) (x.or_ != y.or_) hL ⟨rops1_41, rops1_42, rops1_43, rops1_44, rops1_45, rops1_46, rops1_40, rfl, rfl, rfl, rfl, rfl, rfl, rfl, rfl, rfl, rfl, rfl, rfl, rfl⟩ ⟨?_, fun ev (h : ev (.tmp 54) = _) (hc : ev (.const (.bool true)) = _) => by go_simp, fun ev c (h : ev (.tmp 54) = _) (h2 : ev (.tmp 59) = _) => by go_simp⟩ (by omega) (by omega) x12 y12 w12 fun a13 z13 f13 x13 y13 w13 => ?_
  · exact ⟨.pointer (some (⟨w.heap.size, 6, none⟩ : Addr)), .int .u16 x.or_, .pointer (some (⟨w.heap.size + 1, 6, none⟩ : Addr)), .int .u16 y.or_, fun ev (h : ev (.tmp 2) = .pointer (some (⟨w.heap.size, 0, none⟩ : Addr))) => by go_simp, fun ev (h1 : ev (.tmp 55) = .pointer (some (⟨w.heap.size, 6, none⟩ : Addr))) => by go_simp, fun ev (h : ev (.tmp 3) = .pointer (some (⟨w.heap.size + 1, 0, none⟩ : Addr))) => by go_simp, fun ev (h3 : ev (.tmp 57) = .pointer (some (⟨w.heap.size + 1, 6, none⟩ : Addr))) => by go_simp, fun ev (h2 : ev (.tmp 56) = .int .u16 x.or_) (h4 : ev (.tmp 58) = .int .u16 y.or_) => by go_simp⟩
  refine seg_move 47 60 rops1_47 rfl rfl (fun ev (h : ev (.tmp 60) = _) => by go_simp) (by omega) (by omega) x13 y13 w13 fun a14 z14 f14 x14 y14 w14 => ?_
  refine seg 48 47 61 ((x.code != y.code) || (x.fail != y.fail) || (x.addr != y.addr) || (x.count != y.count) || (x.value != y.value) || (x.and_ != y.and_) || (x.or_ != y.or_)) (x.addr2 != y.addr2) hL ⟨rops1_48, rops1_49, rops1_50, rops1_51, rops1_52, rops1_53, rops1_47, rfl, rfl, rfl, rfl, rfl, rfl, rfl, rfl, rfl, rfl, rfl, rfl, rfl⟩ ⟨?_, fun ev (h : ev (.tmp 61) = _) (hc : ev (.const (.bool true)) = _) => by go_simp, fun ev c (h : ev (.tmp 61) = _) (h2 : ev (.tmp 66) = _) => by go_simp⟩ (by omega) (by omega) x14 y14 w14 fun a15 z15 f15 x15 y15 w15 => ?_
  · exact ⟨.pointer (some (⟨w.heap.size, 7, none⟩ : Addr)), .int .u16 x.addr2, .pointer (some (⟨w.heap.size + 1, 7, none⟩ : Addr)), .int .u16 y.addr2, fun ev (h : ev (.tmp 2) = .pointer (some (⟨w.heap.size, 0, none⟩ : Addr))) => by go_simp, fun ev (h1 : ev (.tmp 62) = .pointer (some (⟨w.heap.size, 7, none⟩ : Addr))) => by go_simp, fun ev (h : ev (.tmp 3) = .pointer (some (⟨w.heap.size + 1, 0, none⟩ : Addr))) => by go_simp, fun ev (h3 : ev (.tmp 64) = .pointer (some (⟨w.heap.size + 1, 7, none⟩ : Addr))) => by go_simp, fun ev (h2 : ev (.tmp 63) = .int .u16 x.addr2) (h4 : ev (.tmp 65) = .int .u16 y.addr2) => by go_simp⟩
  refine seg_move 54 67 rops1_54 rfl rfl (fun ev (h : ev (.tmp 67) = _) => by go_simp) (by omega) (by omega) x15 y15 w15 fun a16 z16 f16 x16 y16 w16 => ?_
  refine seg 55 54 68 ((x.code != y.code) || (x.fail != y.fail) || (x.addr != y.addr) || (x.count != y.count) || (x.value != y.value) || (x.and_ != y.and_) || (x.or_ != y.or_) || (x.addr2 != y.addr2)) (x.sub != y.sub) hL ⟨rops1_55, rops1_56, rops1_57, rops1_58, rops1_59, rops1_60, rops1_54, rfl, rfl, rfl, rfl, rfl, rfl, rfl, rfl, rfl, rfl, rfl, rfl, rfl⟩ ⟨?_, fun ev (h : ev (.tmp 68) = _) (hc : ev (.const (.bool true)) = _) => by go_simp, fun ev c (h : ev (.tmp 68) = _) (h2 : ev (.tmp 73) = _) => by go_simp⟩ (by omega) (by omega) x16 y16 w16 fun a17 z17 f17 x17 y17 w17 => ?_
  · exact ⟨.pointer (some (⟨w.heap.size, 8, none⟩ : Addr)), .int .u16 x.sub, .pointer (some (⟨w.heap.size + 1, 8, none⟩ : Addr)), .int .u16 y.sub, fun ev (h : ev (.tmp 2) = .pointer (some (⟨w.heap.size, 0, none⟩ : Addr))) => by go_simp, fun ev (h1 : ev (.tmp 69) = .pointer (some (⟨w.heap.size, 8, none⟩ : Addr))) => by go_simp, fun ev (h : ev (.tmp 3) = .pointer (some (⟨w.heap.size + 1, 0, none⟩ : Addr))) => by go_simp, fun ev (h3 : ev (.tmp 71) = .pointer (some (⟨w.heap.size + 1, 8, none⟩ : Addr))) => by go_simp, fun ev (h2 : ev (.tmp 70) = .int .u16 x.sub) (h4 : ev (.tmp 72) = .int .u16 y.sub) => by go_simp⟩
  refine seg_move 61 74 rops1_61 rfl rfl (fun ev (h : ev (.tmp 74) = _) => by go_simp) (by omega) (by omega) x17 y17 w17 fun a18 z18 f18 x18 y18 w18 => ?_
  refine seg 62 61 75 ((x.code != y.code) || (x.fail != y.fail) || (x.addr != y.addr) || (x.count != y.count) || (x.value != y.value) || (x.and_ != y.and_) || (x.or_ != y.or_) || (x.addr2 != y.addr2) || (x.sub != y.sub)) (x.status != y.status) hL ⟨rops1_62, rops1_63, rops1_64, rops1_65, rops1_66, rops1_67, rops1_61, rfl, rfl, rfl, rfl, rfl, rfl, rfl, rfl, rfl, rfl, rfl, rfl, rfl⟩ ⟨?_, fun ev (h : ev (.tmp 75) = _) (hc : ev (.const (.bool true)) = _) => by go_simp, fun ev c (h : ev (.tmp 75) = _) (h2 : ev (.tmp 80) = _) => by go_simp⟩ (by omega) (by omega) x18 y18 w18 fun a19 z19 f19 x19 y19 w19 => ?_
  · exact ⟨.pointer (some (⟨w.heap.size, 9, none⟩ : Addr)), .int .u16 x.status, .pointer (some (⟨w.heap.size + 1, 9, none⟩ : Addr)), .int .u16 y.status, fun ev (h : ev (.tmp 2) = .pointer (some (⟨w.heap.size, 0, none⟩ : Addr))) => by go_simp, fun ev (h1 : ev (.tmp 76) = .pointer (some (⟨w.heap.size, 9, none⟩ : Addr))) => by go_simp, fun ev (h : ev (.tmp 3) = .pointer (some (⟨w.heap.size + 1, 0, none⟩ : Addr))) => by go_simp, fun ev (h3 : ev (.tmp 78) = .pointer (some (⟨w.heap.size + 1, 9, none⟩ : Addr))) => by go_simp, fun ev (h2 : ev (.tmp 77) = .int .u16 x.status) (h4 : ev (.tmp 79) = .int .u16 y.status) => by go_simp⟩
  refine seg_move 68 81 rops1_68 rfl rfl (fun ev (h : ev (.tmp 81) = _) => by go_simp) (by omega) (by omega) x19 y19 w19 fun a20 z20 f20 x20 y20 w20 => ?_
  refine seg 69 68 82 ((x.code != y.code) || (x.fail != y.fail) || (x.addr != y.addr) || (x.count != y.count) || (x.value != y.value) || (x.and_ != y.and_) || (x.or_ != y.or_) || (x.addr2 != y.addr2) || (x.sub != y.sub) || (x.status != y.status)) (x.events != y.events) hL ⟨rops1_69, rops1_70, rops1_71, rops1_72, rops1_73, rops1_74, rops1_68, rfl, rfl, rfl, rfl, rfl, rfl, rfl, rfl, rfl, rfl, rfl, rfl, rfl⟩ ⟨?_, fun ev (h : ev (.tmp 82) = _) (hc : ev (.const (.bool true)) = _) => by go_simp, fun ev c (h : ev (.tmp 82) = _) (h2 : ev (.tmp 87) = _) => by go_simp⟩ (by omega) (by omega) x20 y20 w20 fun a21 z21 f21 x21 y21 w21 => ?_
  · exact ⟨.pointer (some (⟨w.heap.size, 10, none⟩ : Addr)), .int .u16 x.events, .pointer (some (⟨w.heap.size + 1, 10, none⟩ : Addr)), .int .u16 y.events, fun ev (h : ev (.tmp 2) = .pointer (some (⟨w.heap.size, 0, none⟩ : Addr))) => by go_simp, fun ev (h1 : ev (.tmp 83) = .pointer (some (⟨w.heap.size, 10, none⟩ : Addr))) => by go_simp, fun ev (h : ev (.tmp 3) = .pointer (some (⟨w.heap.size + 1, 0, none⟩ : Addr))) => by go_simp, fun ev (h3 : ev (.tmp 85) = .pointer (some (⟨w.heap.size + 1, 10, none⟩ : Addr))) => by go_simp, fun ev (h2 : ev (.tmp 84) = .int .u16 x.events) (h4 : ev (.tmp 86) = .int .u16 y.events) => by go_simp⟩
  refine seg_move 75 88 rops1_75 rfl rfl (fun ev (h : ev (.tmp 88) = _) => by go_simp) (by omega) (by omega) x21 y21 w21 fun a22 z22 f22 x22 y22 w22 => ?_
  refine seg 76 75 89 ((x.code != y.code) || (x.fail != y.fail) || (x.addr != y.addr) || (x.count != y.count) || (x.value != y.value) || (x.and_ != y.and_) || (x.or_ != y.or_) || (x.addr2 != y.addr2) || (x.sub != y.sub) || (x.status != y.status) || (x.events != y.events)) (x.messages != y.messages) hL ⟨rops1_76, rops1_77, rops1_78, rops1_79, rops1_80, rops1_81, rops1_75, rfl, rfl, rfl, rfl, rfl, rfl, rfl, rfl, rfl, rfl, rfl, rfl, rfl⟩ ⟨?_, fun ev (h : ev (.tmp 89) = _) (hc : ev (.const (.bool true)) = _) => by go_simp, fun ev c (h : ev (.tmp 89) = _) (h2 : ev (.tmp 94) = _) => by go_simp⟩ (by omega) (by omega) x22 y22 w22 fun a23 z23 f23 x23 y23 w23 => ?_
  · exact ⟨.pointer (some (⟨w.heap.size, 11, none⟩ : Addr)), .int .u16 x.messages, .pointer (some (⟨w.heap.size + 1, 11, none⟩ : Addr)), .int .u16 y.messages, fun ev (h : ev (.tmp 2) = .pointer (some (⟨w.heap.size, 0, none⟩ : Addr))) => by go_simp, fun ev (h1 : ev (.tmp 90) = .pointer (some (⟨w.heap.size, 11, none⟩ : Addr))) => by go_simp, fun ev (h : ev (.tmp 3) = .pointer (some (⟨w.heap.size + 1, 0, none⟩ : Addr))) => by go_simp, fun ev (h3 : ev (.tmp 92) = .pointer (some (⟨w.heap.size + 1, 11, none⟩ : Addr))) => by go_simp, fun ev (h2 : ev (.tmp 91) = .int .u16 x.messages) (h4 : ev (.tmp 93) = .int .u16 y.messages) => by go_simp⟩
  exact sd_nil (h a23 (by omega) (by rw [f23, f22, f21, f20, f19, f18, f17, f16, f15, f14, f13, f12, f11, f10, f9, f8, f7, f6, f5, f4, f3, f2, f1]) x23 y23 w23)
set_option maxHeartbeats 4000000 in
set_option maxRecDepth 100000 in
theorem reg3_any (x y : Msg) (w wc : World) (Q : Exit → Act → World → Prop) (a : Act) (px16 : wc.cell? ⟨w.heap.size, 16, none⟩ = some (.int .u8 x.mei)) (py16 : wc.cell? ⟨w.heap.size + 1, 16, none⟩ = some (.int .u8 y.mei)) (px17 : wc.cell? ⟨w.heap.size, 17, none⟩ = some (.int .u8 x.kind)) (py17 : wc.cell? ⟨w.heap.size + 1, 17, none⟩ = some (.int .u8 y.kind)) (px18 : wc.cell? ⟨w.heap.size, 18, none⟩ = some (.int .u8 x.level)) (py18 : wc.cell? ⟨w.heap.size + 1, 18, none⟩ = some (.int .u8 y.level)) (px19 : wc.cell? ⟨w.heap.size, 19, none⟩ = some (.int .u8 x.more)) (py19 : wc.cell? ⟨w.heap.size + 1, 19, none⟩ = some (.int .u8 y.more)) (px20 : wc.cell? ⟨w.heap.size, 20, none⟩ = some (.int .u8 x.next)) (py20 : wc.cell? ⟨w.heap.size + 1, 20, none⟩ = some (.int .u8 y.next)) (hs : a.tmps.size = 254) (hx : a.tmps[2]? = some (.pointer (some ⟨w.heap.size, 0, none⟩))) (hy : a.tmps[3]? = some (.pointer (some ⟨w.heap.size + 1, 0, none⟩)))
    (h : ∀ a' : Act, a'.tmps.size = 254 → a'.defers = a.defers → a'.tmps[2]? = some (.pointer (some ⟨w.heap.size, 0, none⟩)) → a'.tmps[3]? = some (.pointer (some ⟨w.heap.size + 1, 0, none⟩)) → a'.tmps[128]? = some (.bool ((x.mei != y.mei) || (x.kind != y.kind) || (x.level != y.level) || (x.more != y.more) || (x.next != y.next))) → Q .normal a' wc) : wpList Try.prog (opsOf Try.f10 3) Q (opsOf Try.f10 3).toList a wc := by
  have hu1 := Try.underlying30
  have hL : (opsOf Try.f10 3).toList = rops3 := rfl
  suffices hS : SD Try.prog (opsOf Try.f10 3) Q (rops3.drop 0) a wc from hS.out
  refine seg0 (r := (x.mei != y.mei)) 95 rops3_0 rops3_1 rops3_2 rops3_3 rops3_4 rfl rfl rfl rfl rfl rfl rfl rfl rfl rfl ?_ (by omega) (by omega) hx hy fun a1 z1 f1 x1 y1 w1 => ?_
  · exact ⟨.pointer (some (⟨w.heap.size, 16, none⟩ : Addr)), .int .u8 x.mei, .pointer (some (⟨w.heap.size + 1, 16, none⟩ : Addr)), .int .u8 y.mei, fun ev (h : ev (.tmp 2) = .pointer (some (⟨w.heap.size, 0, none⟩ : Addr))) => by go_simp, fun ev (h1 : ev (.tmp 96) = .pointer (some (⟨w.heap.size, 16, none⟩ : Addr))) => by go_simp, fun ev (h : ev (.tmp 3) = .pointer (some (⟨w.heap.size + 1, 0, none⟩ : Addr))) => by go_simp, fun ev (h3 : ev (.tmp 98) = .pointer (some (⟨w.heap.size + 1, 16, none⟩ : Addr))) => by go_simp, fun ev (h2 : ev (.tmp 97) = .int .u8 x.mei) (h4 : ev (.tmp 99) = .int .u8 y.mei) => by go_simp⟩
  refine seg_move 5 100 rops3_5 rfl rfl (fun ev (h : ev (.tmp 100) = _) => by go_simp) (by omega) (by omega) x1 y1 w1 fun a2 z2 f2 x2 y2 w2 => ?_
  refine seg 6 5 101 ((x.mei != y.mei)) (x.kind != y.kind) hL ⟨rops3_6, rops3_7, rops3_8, rops3_9, rops3_10, rops3_11, rops3_5, rfl, rfl, rfl, rfl, rfl, rfl, rfl, rfl, rfl, rfl, rfl, rfl, rfl⟩ ⟨?_, fun ev (h : ev (.tmp 101) = _) (hc : ev (.const (.bool true)) = _) => by go_simp, fun ev c (h : ev (.tmp 101) = _) (h2 : ev (.tmp 106) = _) => by go_simp⟩ (by omega) (by omega) x2 y2 w2 fun a3 z3 f3 x3 y3 w3 => ?_
  · exact ⟨.pointer (some (⟨w.heap.size, 17, none⟩ : Addr)), .int .u8 x.kind, .pointer (some (⟨w.heap.size + 1, 17, none⟩ : Addr)), .int .u8 y.kind, fun ev (h : ev (.tmp 2) = .pointer (some (⟨w.heap.size, 0, none⟩ : Addr))) => by go_simp, fun ev (h1 : ev (.tmp 102) = .pointer (some (⟨w.heap.size, 17, none⟩ : Addr))) => by go_simp, fun ev (h : ev (.tmp 3) = .pointer (some (⟨w.heap.size + 1, 0, none⟩ : Addr))) => by go_simp, fun ev (h3 : ev (.tmp 104) = .pointer (some (⟨w.heap.size + 1, 17, none⟩ : Addr))) => by go_simp, fun ev (h2 : ev (.tmp 103) = .int .u8 x.kind) (h4 : ev (.tmp 105) = .int .u8 y.kind) => by go_simp⟩
  refine seg_move 12 107 rops3_12 rfl rfl (fun ev (h : ev (.tmp 107) = _) => by go_simp) (by omega) (by omega) x3 y3 w3 fun a4 z4 f4 x4 y4 w4 => ?_
  refine seg 13 12 108 ((x.mei != y.mei) || (x.kind != y.kind)) (x.level != y.level) hL ⟨rops3_13, rops3_14, rops3_15, rops3_16, rops3_17, rops3_18, rops3_12, rfl, rfl, rfl, rfl, rfl, rfl, rfl, rfl, rfl, rfl, rfl, rfl, rfl⟩ ⟨?_, fun ev (h : ev (.tmp 108) = _) (hc : ev (.const (.bool true)) = _) => by go_simp, fun ev c (h : ev (.tmp 108) = _) (h2 : ev (.tmp 113) = _) => by go_simp⟩ (by omega) (by omega) x4 y4 w4 fun a5 z5 f5 x5 y5 w5 => ?_
  · exact ⟨.pointer (some (⟨w.heap.size, 18, none⟩ : Addr)), .int .u8 x.level, .pointer (some (⟨w.heap.size + 1, 18, none⟩ : Addr)), .int .u8 y.level, fun ev (h : ev (.tmp 2) = .pointer (some (⟨w.heap.size, 0, none⟩ : Addr))) => by go_simp, fun ev (h1 : ev (.tmp 109) = .pointer (some (⟨w.heap.size, 18, none⟩ : Addr))) => by go_simp, fun ev (h : ev (.tmp 3) = .pointer (some (⟨w.heap.size + 1, 0, none⟩ : Addr))) => by go_simp, fun ev (h3 : ev (.tmp 111) = .pointer (some (⟨w.heap.size + 1, 18, none⟩ : Addr))) => by go_simp, fun ev (h2 : ev (.tmp 110) = .int .u8 x.level) (h4 : ev (.tmp 112) = .int .u8 y.level) => by go_simp⟩
  refine seg_move 19 114 rops3_19 rfl rfl (fun ev (h : ev (.tmp 114) = _) => by go_simp) (by omega) (by omega) x5 y5 w5 fun a6 z6 f6 x6 y6 w6 => ?_
  refine seg 20 19 115 ((x.mei != y.mei) || (x.kind != y.kind) || (x.level != y.level)) (x.more != y.more) hL ⟨rops3_20, rops3_21, rops3_22, rops3_23, rops3_24, rops3_25, rops3_19, rfl, rfl, rfl, rfl, rfl, rfl, rfl, rfl, rfl, rfl, rfl, rfl, rfl⟩ ⟨?_, fun ev (h : ev (.tmp 115) = _) (hc : ev (.const (.bool true)) = _) => by go_simp, fun ev c (h : ev (.tmp 115) = _) (h2 : ev (.tmp 120) = _) => by go_simp⟩ (by omega) (by omega) x6 y6 w6 fun a7 z7 f7 x7 y7 w7 => ?_
  · exact ⟨.pointer (some (⟨w.heap.size, 19, none⟩ : Addr)), .int .u8 x.more, .pointer (some (⟨w.heap.size + 1, 19, none⟩ : Addr)), .int .u8 y.more, fun ev (h : ev (.tmp 2) = .pointer (some (⟨w.heap.size, 0, none⟩ : Addr))) => by go_simp, fun ev (h1 : ev (.tmp 116) = .pointer (some (⟨w.heap.size, 19, none⟩ : Addr))) => by go_simp, fun ev (h : ev (.tmp 3) = .pointer (some (⟨w.heap.size + 1, 0, none⟩ : Addr))) => by go_simp, fun ev (h3 : ev (.tmp 118) = .pointer (some (⟨w.heap.size + 1, 19, none⟩ : Addr))) => by go_simp, fun ev (h2 : ev (.tmp 117) = .int .u8 x.more) (h4 : ev (.tmp 119) = .int .u8 y.more) => by go_simp⟩
  refine seg_move 26 121 rops3_26 rfl rfl (fun ev (h : ev (.tmp 121) = _) => by go_simp) (by omega) (by omega) x7 y7 w7 fun a8 z8 f8 x8 y8 w8 => ?_
  refine seg 27 26 122 ((x.mei != y.mei) || (x.kind != y.kind) || (x.level != y.level) || (x.more != y.more)) (x.next != y.next) hL ⟨rops3_27, rops3_28, rops3_29, rops3_30, rops3_31, rops3_32, rops3_26, rfl, rfl, rfl, rfl, rfl, rfl, rfl, rfl, rfl, rfl, rfl, rfl, rfl⟩ ⟨?_, fun ev (h : ev (.tmp 122) = _) (hc : ev (.const (.bool true)) = _) => by go_simp, fun ev c (h : ev (.tmp 122) = _) (h2 : ev (.tmp 127) = _) => by go_simp⟩ (by omega) (by omega) x8 y8 w8 fun a9 z9 f9 x9 y9 w9 => ?_
  · exact ⟨.pointer (some (⟨w.heap.size, 20, none⟩ : Addr)), .int .u8 x.next, .pointer (some (⟨w.heap.size + 1, 20, none⟩ : Addr)), .int .u8 y.next, fun ev (h : ev (.tmp 2) = .pointer (some (⟨w.heap.size, 0, none⟩ : Addr))) => by go_simp, fun ev (h1 : ev (.tmp 123) = .pointer (some (⟨w.heap.size, 20, none⟩ : Addr))) => by go_simp, fun ev (h : ev (.tmp 3) = .pointer (some (⟨w.heap.size + 1, 0, none⟩ : Addr))) => by go_simp, fun ev (h3 : ev (.tmp 125) = .pointer (some (⟨w.heap.size + 1, 20, none⟩ : Addr))) => by go_simp, fun ev (h2 : ev (.tmp 124) = .int .u8 x.next) (h4 : ev (.tmp 126) = .int .u8 y.next) => by go_simp⟩
  exact sd_nil (h a9 (by omega) (by rw [f9, f8, f7, f6, f5, f4, f3, f2, f1]) x9 y9 w9)
end Go.Proofs.Ytbilolgiihegiaa.Same
