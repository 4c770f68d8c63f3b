import Derived.WalkKit
import Derived.Great.Walk
namespace Go.Proofs.YtkhhhceeoljheaaGreatDoor
open Go.RowKit Go.Great
theorem run_part_one {P : Program} (w : World) {e : TypeId} {d : TypeDesc} (he : P.underlying e = some d) (hd : (match d with | .struct _ | .array _ _ => true | _ => false) = false)
    (cs : Array Value) (j : Nat) (v : Value) (hv : cs[j]? = some v) : (part e cs j).run P w = .ok v w := by
  have hagg : (isAgg e).run P w = .ok false w := by
    unfold isAgg; rw [Sem.run_bind, run_underlying he w]; cases d <;> simp_all
  unfold part; rw [Sem.run_bind, hagg]; simp [hv]
theorem run_index_agg {P : Program} (w : World) {t e : TypeId} {n : Nat} {k : IntKind} {d : TypeDesc} (ht : P.underlying t = some (.array n e)) (he : P.underlying e = some d)
    (hd : (match d with | .struct _ | .array _ _ => true | _ => false) = false) (hi : (P.info? e).map (·.size) = some 1)
    (cs : Array Value) (i : Int) (h0 : 0 ≤ i) (h1 : i < n) (v : Value) (hv : cs[i.toNat]? = some v) : (Instr.index t (.agg cs) (.int k i)).run P w = .ok v w := by
  cases hie : P.info? e with
  | none => simp [hie] at hi
  | some ie =>
    have hsz : ie.size = 1 := by simpa [hie] using hi
    have := run_part_one w he hd cs i.toNat v hv; simp [Instr.index, run_underlying ht, asIntOf, h0, h1, sizeOf, typeInfo, hie, hsz, this]
theorem wpList_indexAgg {P : Program} {ops : Array Oper} {rest : List Oper} {o : Oper} {a : Act} {w : World} {Q : Exit → Act → World → Prop} (hg : o.guard = none) (t : TypeId) (x ix : Operand) (ho : o.op = .index t x ix)
    (v : Value) (hrun : (Instr.index t (a.eval x) (a.eval ix)).run P w = .ok v w) (h : wpList P ops Q rest (a.put o.dst v) w) : wpList P ops Q (o :: rest) a w :=
  wpList_plain hg fun K hK => by
    unfold Oper.wp execOp; simp only [ho, Sem.run_bind, hrun, Result.andThen_ok]; exact hK _ _ h
end Go.Proofs.YtkhhhceeoljheaaGreatDoor
