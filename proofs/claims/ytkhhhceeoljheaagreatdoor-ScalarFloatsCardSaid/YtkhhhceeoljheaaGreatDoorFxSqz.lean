import Derived.Test.YtkhhhceeoljheaaGreatDoorProg
import Derived.LoopTactic
import Derived.RegionTactic
import Derived.Test.YtkhhhceeoljheaaGreatDoorFxWMore
set_option linter.unusedVariables false
set_option linter.unusedSimpArgs false
set_option linter.unusedVariables false
namespace Go.Proofs.YtkhhhceeoljheaaGreatDoor
open Go.RowKit Go.Proofs.YtkhhhceeoljheaaGreatDoorW.PrintWords Go.Proofs.YtkhhhceeoljheaaGreatDoorW.PrintLast Go.Proofs.YtkhhhceeoljheaaGreatDoorW.PrintMore
theorem bl2_ {p : Prop} (h : p := by repeat (first | (with_reducible first | exact Aside0.out (by assumption) | apply below_alloc | apply pw_below_drewN | apply below_drew1) | exact Aside0.out (by assumption))) : p := h
theorem bx_ {ops : Array Oper} {rest : List Oper} {a : Act} {Q : Exit → Act → World → Prop} {W : World} {N : Tmp} {x : Operand} {ty : TypeId} {p : String} {af : Array Edge} {F E : Int} (he : a.eval x = .agg #[.int .i64 F, .int .i64 E])
    (h : ∀ g w1, w1.heap[g]? = some (.cells #[.int .i64 F, .int .i64 E] 94 (0, 0)) → Below W.heap.size W w1 → wpList Tryz.prog ops Q rest (a.put (some N) (.pointer (some ⟨g, 0, none⟩))) w1) :
    wpList Tryz.prog ops Q ({ dst := some N, op := .box 94 x, type := ty, pos := p, after := af, guard := none } :: rest) a W := by
  have hu94 := Tryz.underlying94; refine box_event rfl (N := N) rfl (cs := #[.int .i64 F, .int .i64 E]) (t := 94) ?_ (fun g hg w1 hb hB => h g w1 hb hB); unfold execOp; dsimp only; rw [he]; first | (go_simp; done) | (go_simp; rfl)
theorem bk_ {w w1 w2 : World} {g : Nat} {o : Obj} (h : Aside0 (w.heap[g]? = some o)) (hb : Below w1.heap.size w1 w2) (m : w.heap[g]? = some o → w1.heap[g]? = some o := by intro h_; (with_reducible repeat (first | refine blk_drewN ?_ _ | refine blk_drew ?_ | refine blk_alloc ?_ _)); exact h_) : Aside0 (w2.heap[g]? = some o) := ⟨blk_below (m h.out) hb⟩
def Hd (gb : Nat) (F E : Int) (w : World) : Prop := w.cell? ⟨gb, 0, none⟩ = some (.int .i64 F) ∧ w.cell? ⟨gb, 1, none⟩ = some (.int .i64 E)
theorem hd_ {w : World} {gb : Nat} {F E : Int} (h : Aside0 (w.heap[gb]? = some (.cells #[.int .i64 F, .int .i64 E] 94 (0, 0)))) : Hd gb F E w := ⟨(blk_cell h.out 0).trans rfl, (blk_cell h.out 1).trans rfl⟩
theorem zz_ {w : World} {gb : Nat} {F E : Int} (h : Aside0 (w.heap[gb]? = some (.cells #[.int .i64 F, .int .i64 E] 94 (0, 0)))) : w.cell? ⟨gb, 0, none⟩ = some (.int .i64 F) ∧ w.cell? ⟨gb, 1, none⟩ = some (.int .i64 E) ∧ w.frozen? ⟨gb, 0, none⟩ = false ∧ w.frozen? ⟨gb, 1, none⟩ = false :=
  ⟨(blk_cell h.out 0).trans rfl, (blk_cell h.out 1).trans rfl, blk_frozen h.out 0, blk_frozen h.out 1⟩
def ba (n m : Nat) : Array Bool := ((List.range n).map fun i => m.testBit i).toArray
section
variable {P : Program} {ops : Array Oper} {Q : Exit → Act → World → Prop} {md : Region.Mode} {S : World → Prop} {ds : List Nat}
theorem pu_ {fuel : Nat} {l : Array Bool} {a : Act} {w : World} (i : Nat) (N : Option Tmp) (l' : Array Bool) {oi : Oper} {v : Value} {a' : Act} (h : wpAnyLast P md ops Q S ds fuel l' a' w) (hi : ops[i]? = some oi := by rfl) (hN : oi.dst = N := by rfl) (hc : anyB md ops l l' i = true := by kernel_rfl)
    (hQ : ∀ c a w, Q (.panic c) (a.put oi.dst v) w → Q (.panic c) a w := by exact fun _ _ _ h => h) (hy : Yields P ops oi v a := by refine Or.inl ⟨by rfl, ?_⟩; intro w'; go_simp; with_reducible rfl)
    (ha : a.put N v = a' := by simp only [Act.put, List.setIfInBounds_toArray, List.set_cons_zero, List.set_cons_succ, i64_w, i32_w]; rfl) : wpAnyLast P md ops Q S ds (fuel + 1) l a w := pure_ l' hi hN hc hQ hy ha h
theorem un_ {fuel : Nat} {l : Array Bool} {a : Act} {w : World} (i : Nat) (N : Option Tmp) (l' : Array Bool) {oi : Oper} {a' : Act} (h : wpAnyLast P md ops Q S ds fuel l' a' w) (hi : ops[i]? = some oi := by rfl) (hN : oi.dst = N := by rfl) (hc : anyB md ops l l' i = true := by kernel_rfl)
    (hQ : ∀ c a w, Q (.panic c) (a.put oi.dst undef) w → Q (.panic c) a w := by exact fun _ _ _ h => h) (hw : Region.wanted oi (yielded ops a.tmps) = false := by rfl)
    (ha : a.put N undef = a' := by simp only [Act.put, List.setIfInBounds_toArray, List.set_cons_zero, List.set_cons_succ, i64_w, i32_w]; rfl) : wpAnyLast P md ops Q S ds (fuel + 1) l a w := pure_ l' hi hN hc hQ (Or.inr ⟨hw, rfl⟩) ha h
theorem ta_ {fuel : Nat} {l : Array Bool} {a : Act} {w : World} (i : Nat) (N : Option Tmp) (l' : Array Bool) {oi : Oper} {v : Value} {a' : Act} (h : wpAnyLast P md ops Q S ds fuel l' a' w) (hi : ops[i]? = some oi := by rfl) (hN : oi.dst = N := by rfl) (hc : takeB md ops ds l l' i = true := by kernel_rfl)
    (hQ : ∀ c a w, Q (.panic c) (a.put oi.dst v) w → Q (.panic c) a w := by exact fun _ _ _ h => h) (hy : YieldsIf P ops S oi v a := by refine Or.inl ⟨by rfl, ?_⟩; rintro w' ⟨s0, s1⟩; go_simp; with_reducible rfl) (hS : S w := by assumption)
    (ha : a.put N v = a' := by simp only [Act.put, List.setIfInBounds_toArray, List.set_cons_zero, List.set_cons_succ, i64_w, i32_w]; rfl) : wpAnyLast P md ops Q S ds (fuel + 1) l a w := take_ l' hi hN hc hQ hy hS ha h
theorem og_ {fuel : Nat} {l : Array Bool} {a : Act} {w : World} (i : Nat) (N : Option Tmp) (l' : Array Bool) {f : FuncId} {fn : Func} (hf : P.funcs[f]? = some fn) {oi : Oper} {as_ : Array Operand} {ts : Array TypeId} {args : Array Value}
    (h : Calls P f args w fun e w' => ∃ v, e = .returned v ∧ S w' ∧ (S w' → wpAnyLast P md ops Q S ds fuel l' (a.put N v) w')) (hi : ops[i]? = some oi := by rfl) (hN : oi.dst = N := by rfl) (hc : readyB md ops l l' i = true := by kernel_rfl) (hd : i ∉ ds := by decide) (hname : (fn.name == "runtime.NumGoroutine") = false := by kernel_rfl) (hb : fn.body.isSome = true := by rfl)
    (hw : Region.wanted oi (yielded ops a.tmps) = true := by rfl) (hop : oi.op = .call { callee := .value (.func f), args := as_, argTypes := ts } := by rfl) (hargs : as_.map a.eval = args := by (try simp only [List.map_toArray, List.map_cons, List.map_nil]); first | done | rfl) : wpAnyLast P md ops Q S ds (fuel + 1) l a w :=
  one_ l' hi hN hc hd (fun K hK => goes_ hf hname hb args hw hN hop hargs (h.mono fun e w' ⟨v, e1, e2, e3⟩ => ⟨v, e1, hK.out _ _ e2 e3⟩))
theorem no_ {fuel : Nat} {l : Array Bool} {a a' : Act} {w : World} (h : wpAnyLast P md ops Q S ds fuel l a' w) (ha : a = a' := by simp only [Act.put, List.setIfInBounds_toArray, List.set_cons_zero, List.set_cons_succ, i64_w, i32_w]; rfl) : wpAnyLast P md ops Q S ds fuel l a w := norm_ ha h
end
theorem zm_ {p : Prop} (h : p) : Aside0 p := ⟨h⟩
theorem zb_ {p q : Prop} (h : p) (m : p → q := by intro h_; (with_reducible repeat (first | refine blk_drewN ?_ _ | refine blk_drew ?_ | refine blk_alloc ?_ _)); exact h_) : q := m h
theorem zc_ {w w' : World} {p : Addr} {v : Value} (HB : Aside0 (Below w.heap.size w w')) (h : w.cell? p = some v) : w'.cell? p = some v := (HB.out.cell (World.block_lt_of_cell? w _ h)).trans h
theorem zl_ {w : World} {g : Nat} {cs : Array Value} {t : TypeId} (B : Aside0 (w.heap[g]? = some (.cells cs t (0, 0)))) (i : Nat) (v : Value) (h : cs[i]? = some v := by rfl) : w.cell? ⟨g, i, none⟩ = some v := (blk_cell B.out i).trans h
theorem cb_ {w1 w2 w : World} {gb : Nat} {F E : Int} {v : Value} {K : Ending → World → Prop} (BK : Aside0 (w2.heap[gb]? = some (.cells #[.int .i64 F, .int .i64 E] 94 (0, 0)))) (HB : Aside0 (Below w.heap.size w w2))
    (h : ∀ w4, Aside0 (w4.heap[gb]? = some (.cells #[.int .i64 F, .int .i64 E] 94 (0, 0))) → Aside0 (Below w.heap.size w w4) → w4.cell? ⟨gb, 0, none⟩ = some (.int .i64 F) → w4.cell? ⟨gb, 1, none⟩ = some (.int .i64 E) → w4.frozen? ⟨gb, 0, none⟩ = false → w4.frozen? ⟨gb, 1, none⟩ = false → K (.returned v) w4)
    (m : w2.heap[gb]? = some (.cells #[.int .i64 F, .int .i64 E] 94 (0, 0)) → w1.heap[gb]? = some (.cells #[.int .i64 F, .int .i64 E] 94 (0, 0)) := by intro h_; (with_reducible repeat (first | refine blk_drewN ?_ _ | refine blk_drew ?_ | refine blk_alloc ?_ _)); exact h_)
    (m2 : Below w.heap.size w w1 := by repeat (first | (with_reducible first | exact Aside0.out (by assumption) | apply below_alloc | apply pw_below_drewN | apply below_drew1) | exact Aside0.out (by assumption))) : ∀ e w', (e = .returned v ∧ Below w1.heap.size w1 w') → K e w' := by
  rintro e w' ⟨rfl, hb⟩
  have BK' : Aside0 (w'.heap[gb]? = some (.cells #[.int .i64 F, .int .i64 E] 94 (0, 0))) := ⟨blk_below (m BK.out) hb⟩
  obtain ⟨z0, z1, y0, y1⟩ := zz_ BK'
  exact h w' BK' ⟨below_step m2 hb⟩ z0 z1 y0 y1
theorem ox_ {P : Program} {f : FuncId} {args : Array Value} {w w0 : World} {gb : Nat} {F E : Int} {v : Value} {K : Value → World → Prop} (c : Calls P f args w fun e w' => e = .returned v ∧ Below w.heap.size w w') (BK : Aside0 (w.heap[gb]? = some (.cells #[.int .i64 F, .int .i64 E] 94 (0, 0)))) (HB : Aside0 (Below w0.heap.size w0 w))
    (h : ∀ w4, Aside0 (w4.heap[gb]? = some (.cells #[.int .i64 F, .int .i64 E] 94 (0, 0))) → Aside0 (Below w0.heap.size w0 w4) → Hd gb F E w4 → K v w4) : Calls P f args w fun e w' => ∃ v, e = .returned v ∧ Hd gb F E w' ∧ (Hd gb F E w' → K v w') := by
  refine c.mono ?_
  rintro e w' ⟨rfl, hb⟩
  have BK' : Aside0 (w'.heap[gb]? = some (.cells #[.int .i64 F, .int .i64 E] 94 (0, 0))) := ⟨blk_below BK.out hb⟩
  exact ⟨v, rfl, hd_ BK', fun hH => h w' BK' ⟨below_step HB.out hb⟩ hH⟩
end Go.Proofs.YtkhhhceeoljheaaGreatDoor
