/-
  No cell of these rows narrows 'for every input' (looked for: loops, veiled, ifaces, maps, wideKeys, modest, calm, conditions, laid).
  DERIVED. THE GIVEN ROWS OF THIS SEAT. 9 by the template 'for every input the law returns true; each argument reads behind the call as it read before'; 0 by the template 'total and deterministic' (their statements: YtflnpgfddedahaaTotals.lean).
  GIVEN WITH THE SEED: the statements are not yours to turn. If you find one false, say at which input.
  Laid BY PROGRAM, IN A SANDBOX (cutbox-rows.mjs): the forced cells as the released guide's own fill.sh prints them over the translation 44b883b17be8580b… (all of the seat's roots in one cut). By AI agents, Wed Nov 11 2026. No macro, syntax, notation, axiom, sorry.
-/
import Derived.Test.YtflnpgfddedahaaChecked
import GoSem.Claim
import GoSem.ClaimJoined
import GoSem.ClaimMapViews
import Derived.JoinedTies
import Derived.KernelRfl
namespace Go.Proofs.Ytflnpgfddedahaa
/- THE CELL 'sum', in the pinned program and in every row, IS THE sha256 OF THE DUMP (.gsa) THAT YtflnpgfddedahaaProg.lean LOADS. Nothing in Lean hashes anything: it is a label: what it is worth is what the hold of that sum in a sandbox is worth. -/
noncomputable def Try.pinned : Pinned := { name := "ytflnpgfddedahaa", sum := "44b883b17be8580bd8b1428aa74b8ee381c7504b342cdbc43a920f0f9c65c9be", checked := Try.checked }
namespace Rows
def none {H : Type} : Left H := { results := [], args := [] }

/-- 'tipstafflaw07.TableLetters': WHATEVER THE INPUT: true; the input reads as it did. -/
def tableLettersSpec : ChangeSpec := { name := "tableLetters", fn := fun _ => fun
  | [d1, d2, d3] => { results := [.lit (.bool true)], args := [d1, d2, d3] }
  | _ => none }
def tableLettersRow : OpenClaim := { program := "ytflnpgfddedahaa", sum := "44b883b17be8580bd8b1428aa74b8ee381c7504b342cdbc43a920f0f9c65c9be", func := "tipstaff/tipstafflaw07.TableLetters", spec := "tableLetters", inPlace := ["internal/abi.NoEscape"], unfollowed := true, recurses := true, apart := false }
def TableLettersSaid : Prop := tableLettersRow.holds Try.pinned (OpenSpec.ofChange tableLettersSpec)

/-- ITS FALSE NEIGHBOUR: 'it returns false'. Refute it at one input. -/
def tableLettersWrong : ChangeSpec := { name := "tableLetters", fn := fun _ => fun
  | [d1, d2, d3] => { results := [.lit (.bool false)], args := [d1, d2, d3] }
  | _ => none }
def TableLettersWrongFalsely : Prop := tableLettersRow.holds Try.pinned (OpenSpec.ofChange tableLettersWrong)

/-- 'tipstafflaw07.TableEach': WHATEVER THE INPUT: true; the input reads as it did. -/
def tableEachSpec : ChangeSpec := { name := "tableEach", fn := fun _ => fun
  | [d1, d2] => { results := [.lit (.bool true)], args := [d1, d2] }
  | _ => none }
def tableEachRow : OpenClaim := { program := "ytflnpgfddedahaa", sum := "44b883b17be8580bd8b1428aa74b8ee381c7504b342cdbc43a920f0f9c65c9be", func := "tipstaff/tipstafflaw07.TableEach", spec := "tableEach", inPlace := ["internal/abi.NoEscape"], unfollowed := true, recurses := true, apart := false }
def TableEachSaid : Prop := tableEachRow.holds Try.pinned (OpenSpec.ofChange tableEachSpec)

/-- ITS FALSE NEIGHBOUR: 'it returns false'. Refute it at one input. -/
def tableEachWrong : ChangeSpec := { name := "tableEach", fn := fun _ => fun
  | [d1, d2] => { results := [.lit (.bool false)], args := [d1, d2] }
  | _ => none }
def TableEachWrongFalsely : Prop := tableEachRow.holds Try.pinned (OpenSpec.ofChange tableEachWrong)

/-- 'tipstafflaw07.TableKinds': WHATEVER THE INPUT: true; the input reads as it did. -/
def tableKindsSpec : ChangeSpec := { name := "tableKinds", fn := fun _ => fun
  | [d] => { results := [.lit (.bool true)], args := [d] }
  | _ => none }
def tableKindsRow : OpenClaim := { program := "ytflnpgfddedahaa", sum := "44b883b17be8580bd8b1428aa74b8ee381c7504b342cdbc43a920f0f9c65c9be", func := "tipstaff/tipstafflaw07.TableKinds", spec := "tableKinds", inPlace := ["internal/abi.NoEscape"], unfollowed := true, recurses := true, apart := false }
def TableKindsSaid : Prop := tableKindsRow.holds Try.pinned (OpenSpec.ofChange tableKindsSpec)

/-- ITS FALSE NEIGHBOUR: 'it returns false'. Refute it at one input. -/
def tableKindsWrong : ChangeSpec := { name := "tableKinds", fn := fun _ => fun
  | [d] => { results := [.lit (.bool false)], args := [d] }
  | _ => none }
def TableKindsWrongFalsely : Prop := tableKindsRow.holds Try.pinned (OpenSpec.ofChange tableKindsWrong)

/-- 'tipstafflaw07.TableGroups': WHATEVER THE INPUT: true; the input reads as it did. -/
def tableGroupsSpec : ChangeSpec := { name := "tableGroups", fn := fun _ => fun
  | [d1, d2] => { results := [.lit (.bool true)], args := [d1, d2] }
  | _ => none }
def tableGroupsRow : OpenClaim := { program := "ytflnpgfddedahaa", sum := "44b883b17be8580bd8b1428aa74b8ee381c7504b342cdbc43a920f0f9c65c9be", func := "tipstaff/tipstafflaw07.TableGroups", spec := "tableGroups", inPlace := ["internal/abi.NoEscape"], unfollowed := true, recurses := true, apart := false }
def TableGroupsSaid : Prop := tableGroupsRow.holds Try.pinned (OpenSpec.ofChange tableGroupsSpec)

/-- ITS FALSE NEIGHBOUR: 'it returns false'. Refute it at one input. -/
def tableGroupsWrong : ChangeSpec := { name := "tableGroups", fn := fun _ => fun
  | [d1, d2] => { results := [.lit (.bool false)], args := [d1, d2] }
  | _ => none }
def TableGroupsWrongFalsely : Prop := tableGroupsRow.holds Try.pinned (OpenSpec.ofChange tableGroupsWrong)

/-- 'tipstafflaw08.UsesLetters': WHATEVER THE INPUT: true; the input reads as it did. -/
def usesLettersSpec : ChangeSpec := { name := "usesLetters", fn := fun _ => fun
  | [d1, d2] => { results := [.lit (.bool true)], args := [d1, d2] }
  | _ => none }
def usesLettersRow : OpenClaim := { program := "ytflnpgfddedahaa", sum := "44b883b17be8580bd8b1428aa74b8ee381c7504b342cdbc43a920f0f9c65c9be", func := "tipstaff/tipstafflaw08.UsesLetters", spec := "usesLetters", inPlace := ["internal/abi.NoEscape"], unfollowed := true, recurses := true, apart := false }
def UsesLettersSaid : Prop := usesLettersRow.holds Try.pinned (OpenSpec.ofChange usesLettersSpec)

/-- ITS FALSE NEIGHBOUR: 'it returns false'. Refute it at one input. -/
def usesLettersWrong : ChangeSpec := { name := "usesLetters", fn := fun _ => fun
  | [d1, d2] => { results := [.lit (.bool false)], args := [d1, d2] }
  | _ => none }
def UsesLettersWrongFalsely : Prop := usesLettersRow.holds Try.pinned (OpenSpec.ofChange usesLettersWrong)

/-- 'tipstafflaw08.UsesNone': WHATEVER THE INPUT: true; the input reads as it did. -/
def usesNoneSpec : ChangeSpec := { name := "usesNone", fn := fun _ => fun
  | [d1, d2] => { results := [.lit (.bool true)], args := [d1, d2] }
  | _ => none }
def usesNoneRow : OpenClaim := { program := "ytflnpgfddedahaa", sum := "44b883b17be8580bd8b1428aa74b8ee381c7504b342cdbc43a920f0f9c65c9be", func := "tipstaff/tipstafflaw08.UsesNone", spec := "usesNone", inPlace := ["internal/abi.NoEscape"], unfollowed := true, recurses := true, apart := false }
def UsesNoneSaid : Prop := usesNoneRow.holds Try.pinned (OpenSpec.ofChange usesNoneSpec)

/-- ITS FALSE NEIGHBOUR: 'it returns false'. Refute it at one input. -/
def usesNoneWrong : ChangeSpec := { name := "usesNone", fn := fun _ => fun
  | [d1, d2] => { results := [.lit (.bool false)], args := [d1, d2] }
  | _ => none }
def UsesNoneWrongFalsely : Prop := usesNoneRow.holds Try.pinned (OpenSpec.ofChange usesNoneWrong)

/-- 'tipstafflaw08.UsesWords': WHATEVER THE INPUT: true; the input reads as it did. -/
def usesWordsSpec : ChangeSpec := { name := "usesWords", fn := fun _ => fun
  | [d1, d2] => { results := [.lit (.bool true)], args := [d1, d2] }
  | _ => none }
def usesWordsRow : OpenClaim := { program := "ytflnpgfddedahaa", sum := "44b883b17be8580bd8b1428aa74b8ee381c7504b342cdbc43a920f0f9c65c9be", func := "tipstaff/tipstafflaw08.UsesWords", spec := "usesWords", inPlace := ["internal/abi.NoEscape"], unfollowed := true, recurses := true, apart := false }
def UsesWordsSaid : Prop := usesWordsRow.holds Try.pinned (OpenSpec.ofChange usesWordsSpec)

/-- ITS FALSE NEIGHBOUR: 'it returns false'. Refute it at one input. -/
def usesWordsWrong : ChangeSpec := { name := "usesWords", fn := fun _ => fun
  | [d1, d2] => { results := [.lit (.bool false)], args := [d1, d2] }
  | _ => none }
def UsesWordsWrongFalsely : Prop := usesWordsRow.holds Try.pinned (OpenSpec.ofChange usesWordsWrong)

/-- 'tipstafflaw08.UsesAll': WHATEVER THE INPUT: true; the input reads as it did. -/
def usesAllSpec : ChangeSpec := { name := "usesAll", fn := fun _ => fun
  | [d] => { results := [.lit (.bool true)], args := [d] }
  | _ => none }
def usesAllRow : OpenClaim := { program := "ytflnpgfddedahaa", sum := "44b883b17be8580bd8b1428aa74b8ee381c7504b342cdbc43a920f0f9c65c9be", func := "tipstaff/tipstafflaw08.UsesAll", spec := "usesAll", inPlace := ["internal/abi.NoEscape"], unfollowed := true, recurses := true, apart := false }
def UsesAllSaid : Prop := usesAllRow.holds Try.pinned (OpenSpec.ofChange usesAllSpec)

/-- ITS FALSE NEIGHBOUR: 'it returns false'. Refute it at one input. -/
def usesAllWrong : ChangeSpec := { name := "usesAll", fn := fun _ => fun
  | [d] => { results := [.lit (.bool false)], args := [d] }
  | _ => none }
def UsesAllWrongFalsely : Prop := usesAllRow.holds Try.pinned (OpenSpec.ofChange usesAllWrong)

/-- 'tipstafflaw08.UsesMany': WHATEVER THE INPUT: true; the input reads as it did. -/
def usesManySpec : ChangeSpec := { name := "usesMany", fn := fun _ => fun
  | [d] => { results := [.lit (.bool true)], args := [d] }
  | _ => none }
def usesManyRow : OpenClaim := { program := "ytflnpgfddedahaa", sum := "44b883b17be8580bd8b1428aa74b8ee381c7504b342cdbc43a920f0f9c65c9be", func := "tipstaff/tipstafflaw08.UsesMany", spec := "usesMany", inPlace := ["internal/abi.NoEscape"], unfollowed := true, recurses := true, apart := false }
def UsesManySaid : Prop := usesManyRow.holds Try.pinned (OpenSpec.ofChange usesManySpec)

/-- ITS FALSE NEIGHBOUR: 'it returns false'. Refute it at one input. -/
def usesManyWrong : ChangeSpec := { name := "usesMany", fn := fun _ => fun
  | [d] => { results := [.lit (.bool false)], args := [d] }
  | _ => none }
def UsesManyWrongFalsely : Prop := usesManyRow.holds Try.pinned (OpenSpec.ofChange usesManyWrong)

/- THE SECOND FORM. 'bulk': how many values and letters a reading holds, each counted each time it is reached (what is shared counts as often as it is met; a slice's spare places count too). A statement '..UptoSaid' is the law's where the arguments, and the package variables that the reading takes, are together of bulk at most 1048576: NARROWER than '..Said'. Prove '..Said' where nothing that the law and all that it calls make is longer than what came in: it says more and counts as full. Else prove '..UptoSaid'. A law counts once. -/
mutual
def uptoBulk {H : Type} : DataW H → Nat
  | .lit (.string bytes) => bytes.length + 1
  | .lit _ => 1
  | .nil => 1
  | .ptr d => uptoBulk d + 1
  | .slice elems spare => uptoBulkAll elems + uptoBulkAll spare + 1
  | .agg parts => uptoBulkAll parts + 1
  | .iface _ d => uptoBulk d + 1
  | .map entries => uptoBulkEntries entries + 1
  | .held _ => 1
def uptoBulkAll {H : Type} : List (DataW H) → Nat
  | [] => 0
  | d :: r => uptoBulk d + uptoBulkAll r
def uptoBulkEntries {H : Type} : List (Lit × DataW H) → Nat
  | [] => 0
  | x :: r => uptoBulkEntry x + uptoBulkEntries r
def uptoBulkEntry {H : Type} : Lit × DataW H → Nat
  | (.string bytes, d) => bytes.length + uptoBulk d + 1
  | (_, d) => uptoBulk d + 1
 end
def uptoSmall : (H : Type) → List (DataW H) → Bool := fun _ ds => decide (uptoBulkAll ds ≤ 1048576)
def OpenSpec.upto (s : _root_.Go.ChangeSpec) : _root_.Go.OpenSpec := { _root_.Go.OpenSpec.ofChange s with cond := some uptoSmall }

/-- 'tipstafflaw07.TableLetters', WHERE WHAT IT READS IS OF BULK AT MOST 1048576: true; the input reads as it did. -/
def tableLettersUptoRow : OpenClaim := { program := "ytflnpgfddedahaa", sum := "44b883b17be8580bd8b1428aa74b8ee381c7504b342cdbc43a920f0f9c65c9be", func := "tipstaff/tipstafflaw07.TableLetters", spec := "tableLetters", inPlace := ["internal/abi.NoEscape"], unfollowed := true, recurses := true, apart := false, narrowed := true }
def TableLettersUptoSaid : Prop := tableLettersUptoRow.holds Try.pinned (OpenSpec.upto tableLettersSpec)

/-- 'tipstafflaw07.TableEach', WHERE WHAT IT READS IS OF BULK AT MOST 1048576: true; the input reads as it did. -/
def tableEachUptoRow : OpenClaim := { program := "ytflnpgfddedahaa", sum := "44b883b17be8580bd8b1428aa74b8ee381c7504b342cdbc43a920f0f9c65c9be", func := "tipstaff/tipstafflaw07.TableEach", spec := "tableEach", inPlace := ["internal/abi.NoEscape"], unfollowed := true, recurses := true, apart := false, narrowed := true }
def TableEachUptoSaid : Prop := tableEachUptoRow.holds Try.pinned (OpenSpec.upto tableEachSpec)

/-- 'tipstafflaw07.TableKinds', WHERE WHAT IT READS IS OF BULK AT MOST 1048576: true; the input reads as it did. -/
def tableKindsUptoRow : OpenClaim := { program := "ytflnpgfddedahaa", sum := "44b883b17be8580bd8b1428aa74b8ee381c7504b342cdbc43a920f0f9c65c9be", func := "tipstaff/tipstafflaw07.TableKinds", spec := "tableKinds", inPlace := ["internal/abi.NoEscape"], unfollowed := true, recurses := true, apart := false, narrowed := true }
def TableKindsUptoSaid : Prop := tableKindsUptoRow.holds Try.pinned (OpenSpec.upto tableKindsSpec)

/-- 'tipstafflaw07.TableGroups', WHERE WHAT IT READS IS OF BULK AT MOST 1048576: true; the input reads as it did. -/
def tableGroupsUptoRow : OpenClaim := { program := "ytflnpgfddedahaa", sum := "44b883b17be8580bd8b1428aa74b8ee381c7504b342cdbc43a920f0f9c65c9be", func := "tipstaff/tipstafflaw07.TableGroups", spec := "tableGroups", inPlace := ["internal/abi.NoEscape"], unfollowed := true, recurses := true, apart := false, narrowed := true }
def TableGroupsUptoSaid : Prop := tableGroupsUptoRow.holds Try.pinned (OpenSpec.upto tableGroupsSpec)

/-- 'tipstafflaw08.UsesLetters', WHERE WHAT IT READS IS OF BULK AT MOST 1048576: true; the input reads as it did. -/
def usesLettersUptoRow : OpenClaim := { program := "ytflnpgfddedahaa", sum := "44b883b17be8580bd8b1428aa74b8ee381c7504b342cdbc43a920f0f9c65c9be", func := "tipstaff/tipstafflaw08.UsesLetters", spec := "usesLetters", inPlace := ["internal/abi.NoEscape"], unfollowed := true, recurses := true, apart := false, narrowed := true }
def UsesLettersUptoSaid : Prop := usesLettersUptoRow.holds Try.pinned (OpenSpec.upto usesLettersSpec)

/-- 'tipstafflaw08.UsesNone', WHERE WHAT IT READS IS OF BULK AT MOST 1048576: true; the input reads as it did. -/
def usesNoneUptoRow : OpenClaim := { program := "ytflnpgfddedahaa", sum := "44b883b17be8580bd8b1428aa74b8ee381c7504b342cdbc43a920f0f9c65c9be", func := "tipstaff/tipstafflaw08.UsesNone", spec := "usesNone", inPlace := ["internal/abi.NoEscape"], unfollowed := true, recurses := true, apart := false, narrowed := true }
def UsesNoneUptoSaid : Prop := usesNoneUptoRow.holds Try.pinned (OpenSpec.upto usesNoneSpec)

/-- 'tipstafflaw08.UsesWords', WHERE WHAT IT READS IS OF BULK AT MOST 1048576: true; the input reads as it did. -/
def usesWordsUptoRow : OpenClaim := { program := "ytflnpgfddedahaa", sum := "44b883b17be8580bd8b1428aa74b8ee381c7504b342cdbc43a920f0f9c65c9be", func := "tipstaff/tipstafflaw08.UsesWords", spec := "usesWords", inPlace := ["internal/abi.NoEscape"], unfollowed := true, recurses := true, apart := false, narrowed := true }
def UsesWordsUptoSaid : Prop := usesWordsUptoRow.holds Try.pinned (OpenSpec.upto usesWordsSpec)

/-- 'tipstafflaw08.UsesAll', WHERE WHAT IT READS IS OF BULK AT MOST 1048576: true; the input reads as it did. -/
def usesAllUptoRow : OpenClaim := { program := "ytflnpgfddedahaa", sum := "44b883b17be8580bd8b1428aa74b8ee381c7504b342cdbc43a920f0f9c65c9be", func := "tipstaff/tipstafflaw08.UsesAll", spec := "usesAll", inPlace := ["internal/abi.NoEscape"], unfollowed := true, recurses := true, apart := false, narrowed := true }
def UsesAllUptoSaid : Prop := usesAllUptoRow.holds Try.pinned (OpenSpec.upto usesAllSpec)

/-- 'tipstafflaw08.UsesMany', WHERE WHAT IT READS IS OF BULK AT MOST 1048576: true; the input reads as it did. -/
def usesManyUptoRow : OpenClaim := { program := "ytflnpgfddedahaa", sum := "44b883b17be8580bd8b1428aa74b8ee381c7504b342cdbc43a920f0f9c65c9be", func := "tipstaff/tipstafflaw08.UsesMany", spec := "usesMany", inPlace := ["internal/abi.NoEscape"], unfollowed := true, recurses := true, apart := false, narrowed := true }
def UsesManyUptoSaid : Prop := usesManyUptoRow.holds Try.pinned (OpenSpec.upto usesManySpec)

end Rows
end Go.Proofs.Ytflnpgfddedahaa
