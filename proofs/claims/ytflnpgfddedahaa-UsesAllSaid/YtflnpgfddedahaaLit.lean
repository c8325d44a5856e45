/- A long slice literal, as one operation: closed facts on the table of types, and one on 'fill'. -/
import Derived.Test.YtflnpgfddedahaaProg
import Derived.RowKit
import Derived.Great.BuildSlice
namespace Go.Proofs.Ytflnpgfddedahaa
open Go.RowKit
theorem exec_lit {P : Program} {o : Oper} {a : Act} {w : World} (t e : TypeId) (len n : Nat) (parts : Array (Nat × Operand)) (ho : o.op = .buildSlice t len parts) (hn : n = len) (inner : List Value) (sz : Nat) (z : Value)
    (hu : P.underlying t = some (.slice e)) (hsz : (P.info? e).map (·.size) = some sz) (hz : (P.info? e).bind (·.zero) = some z) (hsmall : ¬ len * sz > 2 ^ 24) (hpos : ¬ len * sz = 0)
    (hf : Instr.fill (fun i => some (i * sz, sz)) ((Array.range (len * sz)).map (z.cells[· % z.cells.size]!)) (parts.map fun (i, x) => (i, a.eval x)).toList = some inner.toArray) :
    (execOp a.eval o).run P w = .ok (.value (.slice (some ⟨w.heap.size, 0, none⟩) n n)) (w.alloc (.cells inner.toArray e)) := by
  subst hn
  cases hie : P.info? e with
  | none => simp [hie] at hsz
  | some ie =>
    simp only [hie, Option.map_some, Option.some.injEq, Option.bind_some] at hsz hz
    subst hsz
    unfold execOp
    simp only [ho, Sem.run_bind, run_buildSlice w t e n _ inner.toArray ie z hu hie hz hsmall hpos hf, Result.andThen_ok]
    rfl
end Go.Proofs.Ytflnpgfddedahaa
