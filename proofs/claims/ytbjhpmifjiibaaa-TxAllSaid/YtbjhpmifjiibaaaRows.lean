/-
  No cell of these rows narrows 'for every input' (looked for: loops, veiled, ifaces, maps, wideKeys, modest, calm, conditions, laid).
  DERIVED. THE GIVEN ROWS OF THIS SEAT. 4 by the template 'for every input the law returns true; each argument reads behind the call as it read before'; 0 by the template 'total and deterministic' (their statements: YtbjhpmifjiibaaaTotals.lean).
  GIVEN WITH THE SEED: the statements are not yours to turn. If you find one false, say at which input.
  Laid BY PROGRAM, IN A SANDBOX (cutbox-rows.mjs): the forced cells as the released guide's own fill.sh prints them over the translation 88c20c188008ed24… (all of the seat's roots in one cut). By AI agents, Wed Nov 11 2026. No macro, syntax, notation, axiom, sorry.
-/
import Derived.Test.YtbjhpmifjiibaaaChecked
import GoSem.Claim
import GoSem.ClaimJoined
import GoSem.ClaimMapViews
import Derived.JoinedTies
import Derived.KernelRfl
namespace Go.Proofs.Ytbjhpmifjiibaaa
/- THE CELL 'sum', in the pinned program and in every row, IS THE sha256 OF THE DUMP (.gsa) THAT YtbjhpmifjiibaaaProg.lean LOADS. Nothing in Lean hashes anything: it is a label: what it is worth is what the hold of that sum in a sandbox is worth. -/
noncomputable def Try.pinned : Pinned := { name := "ytbjhpmifjiibaaa", sum := "88c20c188008ed2436cbdfb9e6ab4f5cd8638b09faa05a26cc5e85cb611f21e4", checked := Try.checked }
namespace Rows
def none {H : Type} : Left H := { results := [], args := [] }

/-- 'tipstafflaw21.TxOrder': WHATEVER THE INPUT: true; the input reads as it did. -/
def txOrderSpec : ChangeSpec := { name := "txOrder", fn := fun _ => fun
  | [d] => { results := [.lit (.bool true)], args := [d] }
  | _ => none }
def txOrderRow : OpenClaim := { program := "ytbjhpmifjiibaaa", sum := "88c20c188008ed2436cbdfb9e6ab4f5cd8638b09faa05a26cc5e85cb611f21e4", func := "tipstaff/tipstafflaw21.TxOrder", spec := "txOrder", unfollowed := true, recurses := true, apart := false }
def TxOrderSaid : Prop := txOrderRow.holds Try.pinned (OpenSpec.ofChange txOrderSpec)

/-- ITS FALSE NEIGHBOUR: 'it returns false'. Refute it at one input. -/
def txOrderWrong : ChangeSpec := { name := "txOrder", fn := fun _ => fun
  | [d] => { results := [.lit (.bool false)], args := [d] }
  | _ => none }
def TxOrderWrongFalsely : Prop := txOrderRow.holds Try.pinned (OpenSpec.ofChange txOrderWrong)

/-- 'tipstafflaw21.TxWatches': WHATEVER THE INPUT: true; the input reads as it did. -/
def txWatchesSpec : ChangeSpec := { name := "txWatches", fn := fun _ => fun
  | [d1, d2] => { results := [.lit (.bool true)], args := [d1, d2] }
  | _ => none }
def txWatchesRow : OpenClaim := { program := "ytbjhpmifjiibaaa", sum := "88c20c188008ed2436cbdfb9e6ab4f5cd8638b09faa05a26cc5e85cb611f21e4", func := "tipstaff/tipstafflaw21.TxWatches", spec := "txWatches", unfollowed := true, recurses := true, apart := false }
def TxWatchesSaid : Prop := txWatchesRow.holds Try.pinned (OpenSpec.ofChange txWatchesSpec)

/-- ITS FALSE NEIGHBOUR: 'it returns false'. Refute it at one input. -/
def txWatchesWrong : ChangeSpec := { name := "txWatches", fn := fun _ => fun
  | [d1, d2] => { results := [.lit (.bool false)], args := [d1, d2] }
  | _ => none }
def TxWatchesWrongFalsely : Prop := txWatchesRow.holds Try.pinned (OpenSpec.ofChange txWatchesWrong)

/-- 'tipstafflaw21.TxEnds': WHATEVER THE INPUT: true; the input reads as it did. -/
def txEndsSpec : ChangeSpec := { name := "txEnds", fn := fun _ => fun
  | [d1, d2] => { results := [.lit (.bool true)], args := [d1, d2] }
  | _ => none }
def txEndsRow : OpenClaim := { program := "ytbjhpmifjiibaaa", sum := "88c20c188008ed2436cbdfb9e6ab4f5cd8638b09faa05a26cc5e85cb611f21e4", func := "tipstaff/tipstafflaw21.TxEnds", spec := "txEnds", unfollowed := true, recurses := true, apart := false }
def TxEndsSaid : Prop := txEndsRow.holds Try.pinned (OpenSpec.ofChange txEndsSpec)

/-- ITS FALSE NEIGHBOUR: 'it returns false'. Refute it at one input. -/
def txEndsWrong : ChangeSpec := { name := "txEnds", fn := fun _ => fun
  | [d1, d2] => { results := [.lit (.bool false)], args := [d1, d2] }
  | _ => none }
def TxEndsWrongFalsely : Prop := txEndsRow.holds Try.pinned (OpenSpec.ofChange txEndsWrong)

/-- 'tipstafflaw21.TxAll': WHATEVER THE INPUT: true; the input reads as it did. -/
def txAllSpec : ChangeSpec := { name := "txAll", fn := fun _ => fun
  | [d1, d2] => { results := [.lit (.bool true)], args := [d1, d2] }
  | _ => none }
def txAllRow : OpenClaim := { program := "ytbjhpmifjiibaaa", sum := "88c20c188008ed2436cbdfb9e6ab4f5cd8638b09faa05a26cc5e85cb611f21e4", func := "tipstaff/tipstafflaw21.TxAll", spec := "txAll", unfollowed := true, recurses := true, apart := false }
def TxAllSaid : Prop := txAllRow.holds Try.pinned (OpenSpec.ofChange txAllSpec)

/-- ITS FALSE NEIGHBOUR: 'it returns false'. Refute it at one input. -/
def txAllWrong : ChangeSpec := { name := "txAll", fn := fun _ => fun
  | [d1, d2] => { results := [.lit (.bool false)], args := [d1, d2] }
  | _ => none }
def TxAllWrongFalsely : Prop := txAllRow.holds Try.pinned (OpenSpec.ofChange txAllWrong)

/- THE SECOND FORM. 'bulk': how many values and letters a reading holds, each counted each time it is reached (what is shared counts as often as it is met; a slice's spare places count too). A statement '..UptoSaid' is the law's where the arguments, and the package variables that the reading takes, are together of bulk at most 1048576: NARROWER than '..Said'. Prove '..Said' where nothing that the law and all that it calls make is longer than what came in: it says more and counts as full. Else prove '..UptoSaid'. A law counts once. -/
mutual
def uptoBulk {H : Type} : DataW H → Nat
  | .lit (.string bytes) => bytes.length + 1
  | .lit _ => 1
  | .nil => 1
  | .ptr d => uptoBulk d + 1
  | .slice elems spare => uptoBulkAll elems + uptoBulkAll spare + 1
  | .agg parts => uptoBulkAll parts + 1
  | .iface _ d => uptoBulk d + 1
  | .map entries => uptoBulkEntries entries + 1
  | .held _ => 1
def uptoBulkAll {H : Type} : List (DataW H) → Nat
  | [] => 0
  | d :: r => uptoBulk d + uptoBulkAll r
def uptoBulkEntries {H : Type} : List (Lit × DataW H) → Nat
  | [] => 0
  | x :: r => uptoBulkEntry x + uptoBulkEntries r
def uptoBulkEntry {H : Type} : Lit × DataW H → Nat
  | (.string bytes, d) => bytes.length + uptoBulk d + 1
  | (_, d) => uptoBulk d + 1
 end
def uptoSmall : (H : Type) → List (DataW H) → Bool := fun _ ds => decide (uptoBulkAll ds ≤ 1048576)
def OpenSpec.upto (s : _root_.Go.ChangeSpec) : _root_.Go.OpenSpec := { _root_.Go.OpenSpec.ofChange s with cond := some uptoSmall }

/-- 'tipstafflaw21.TxOrder', WHERE WHAT IT READS IS OF BULK AT MOST 1048576: true; the input reads as it did. -/
def txOrderUptoRow : OpenClaim := { program := "ytbjhpmifjiibaaa", sum := "88c20c188008ed2436cbdfb9e6ab4f5cd8638b09faa05a26cc5e85cb611f21e4", func := "tipstaff/tipstafflaw21.TxOrder", spec := "txOrder", unfollowed := true, recurses := true, apart := false, narrowed := true }
def TxOrderUptoSaid : Prop := txOrderUptoRow.holds Try.pinned (OpenSpec.upto txOrderSpec)

/-- 'tipstafflaw21.TxWatches', WHERE WHAT IT READS IS OF BULK AT MOST 1048576: true; the input reads as it did. -/
def txWatchesUptoRow : OpenClaim := { program := "ytbjhpmifjiibaaa", sum := "88c20c188008ed2436cbdfb9e6ab4f5cd8638b09faa05a26cc5e85cb611f21e4", func := "tipstaff/tipstafflaw21.TxWatches", spec := "txWatches", unfollowed := true, recurses := true, apart := false, narrowed := true }
def TxWatchesUptoSaid : Prop := txWatchesUptoRow.holds Try.pinned (OpenSpec.upto txWatchesSpec)

/-- 'tipstafflaw21.TxEnds', WHERE WHAT IT READS IS OF BULK AT MOST 1048576: true; the input reads as it did. -/
def txEndsUptoRow : OpenClaim := { program := "ytbjhpmifjiibaaa", sum := "88c20c188008ed2436cbdfb9e6ab4f5cd8638b09faa05a26cc5e85cb611f21e4", func := "tipstaff/tipstafflaw21.TxEnds", spec := "txEnds", unfollowed := true, recurses := true, apart := false, narrowed := true }
def TxEndsUptoSaid : Prop := txEndsUptoRow.holds Try.pinned (OpenSpec.upto txEndsSpec)

/-- 'tipstafflaw21.TxAll', WHERE WHAT IT READS IS OF BULK AT MOST 1048576: true; the input reads as it did. -/
def txAllUptoRow : OpenClaim := { program := "ytbjhpmifjiibaaa", sum := "88c20c188008ed2436cbdfb9e6ab4f5cd8638b09faa05a26cc5e85cb611f21e4", func := "tipstaff/tipstafflaw21.TxAll", spec := "txAll", unfollowed := true, recurses := true, apart := false, narrowed := true }
def TxAllUptoSaid : Prop := txAllUptoRow.holds Try.pinned (OpenSpec.upto txAllSpec)

end Rows
end Go.Proofs.Ytbjhpmifjiibaaa
