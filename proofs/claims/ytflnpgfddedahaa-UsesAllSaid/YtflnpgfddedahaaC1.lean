/- The table of commands as a list, and the contract of table.commands. -/
import Derived.Test.YtflnpgfddedahaaLit
import Derived.Test.YtflnpgfddedahaaWMore
import Derived.Test.YtflnpgfddedahaaWNEv
import Derived.Test.YtflnpgfddedahaaWRepsOne
import Derived.WalkKit
import Derived.WalkSpells
import Derived.Outline
namespace Go.Proofs.Ytflnpgfddedahaa.U
open Go.RowKit Go.Proofs.YtflnpgfddedahaaW.PrintWords
set_option linter.unusedVariables false
set_option linter.unusedSimpArgs false

structure CmdD where
  name : ByteArray
  arity : Int
  cats : Int
def kCmd : Kd CmdD := Kd.iso (Kd.pair Kd.string (Kd.pair (Kd.int .i64) (Kd.int .u16))) (fun x : CmdD => (x.name, x.arity, x.cats))
def cmdCells (c : CmdD) : List Value := [.string c.name, .int .i64 c.arity, .int .u16 c.cats]
abbrev cmdV (c : CmdD) : Value := .agg #[.string c.name, .int .i64 c.arity, .int .u16 c.cats]
def TABLE : List CmdD := [
  ⟨⟨#[103, 101, 116]⟩, 2, 9⟩,
  ⟨⟨#[115, 101, 116]⟩, -3, 10⟩,
  ⟨⟨#[97, 112, 112, 101, 110, 100]⟩, 3, 10⟩,
  ⟨⟨#[115, 116, 114, 108, 101, 110]⟩, 2, 9⟩,
  ⟨⟨#[105, 110, 99, 114, 98, 121]⟩, 3, 10⟩,
  ⟨⟨#[105, 110, 99, 114]⟩, 2, 10⟩,
  ⟨⟨#[103, 101, 116, 100, 101, 108]⟩, 2, 10⟩,
  ⟨⟨#[109, 103, 101, 116]⟩, -2, 9⟩,
  ⟨⟨#[109, 115, 101, 116]⟩, -3, 10⟩,
  ⟨⟨#[108, 112, 117, 115, 104]⟩, -3, 18⟩,
  ⟨⟨#[114, 112, 117, 115, 104]⟩, -3, 18⟩,
  ⟨⟨#[108, 112, 111, 112]⟩, 2, 18⟩,
  ⟨⟨#[114, 112, 111, 112]⟩, 2, 18⟩,
  ⟨⟨#[108, 108, 101, 110]⟩, 2, 17⟩,
  ⟨⟨#[108, 114, 97, 110, 103, 101]⟩, 4, 17⟩,
  ⟨⟨#[104, 115, 101, 116]⟩, 4, 34⟩,
  ⟨⟨#[104, 103, 101, 116]⟩, 3, 33⟩,
  ⟨⟨#[104, 100, 101, 108]⟩, -3, 34⟩,
  ⟨⟨#[104, 108, 101, 110]⟩, 2, 33⟩,
  ⟨⟨#[104, 103, 101, 116, 97, 108, 108]⟩, 2, 33⟩,
  ⟨⟨#[104, 105, 110, 99, 114, 98, 121]⟩, 4, 34⟩,
  ⟨⟨#[115, 97, 100, 100]⟩, -3, 66⟩,
  ⟨⟨#[115, 114, 101, 109]⟩, -3, 66⟩,
  ⟨⟨#[115, 105, 115, 109, 101, 109, 98, 101, 114]⟩, 3, 65⟩,
  ⟨⟨#[115, 109, 101, 109, 98, 101, 114, 115]⟩, 2, 65⟩,
  ⟨⟨#[115, 99, 97, 114, 100]⟩, 2, 65⟩,
  ⟨⟨#[115, 109, 111, 118, 101]⟩, 4, 66⟩,
  ⟨⟨#[122, 97, 100, 100]⟩, 4, 130⟩,
  ⟨⟨#[122, 114, 101, 109]⟩, -3, 130⟩,
  ⟨⟨#[122, 115, 99, 111, 114, 101]⟩, 3, 129⟩,
  ⟨⟨#[122, 114, 97, 110, 103, 101]⟩, 4, 129⟩,
  ⟨⟨#[122, 99, 97, 114, 100]⟩, 2, 129⟩,
  ⟨⟨#[122, 105, 110, 99, 114, 98, 121]⟩, 4, 130⟩,
  ⟨⟨#[100, 101, 108]⟩, -2, 6⟩,
  ⟨⟨#[101, 120, 105, 115, 116, 115]⟩, -2, 5⟩,
  ⟨⟨#[116, 121, 112, 101]⟩, 2, 5⟩,
  ⟨⟨#[101, 120, 112, 105, 114, 101]⟩, 3, 6⟩,
  ⟨⟨#[116, 116, 108]⟩, 2, 5⟩,
  ⟨⟨#[112, 101, 114, 115, 105, 115, 116]⟩, 2, 6⟩,
  ⟨⟨#[114, 101, 110, 97, 109, 101]⟩, 3, 6⟩,
  ⟨⟨#[107, 101, 121, 115]⟩, 2, 5⟩,
  ⟨⟨#[100, 98, 115, 105, 122, 101]⟩, 1, 5⟩,
  ⟨⟨#[102, 108, 117, 115, 104, 97, 108, 108]⟩, 1, 6⟩,
  ⟨⟨#[112, 105, 110, 103]⟩, 1, 512⟩,
  ⟨⟨#[101, 99, 104, 111]⟩, 2, 512⟩,
  ⟨⟨#[97, 117, 116, 104]⟩, -2, 512⟩,
  ⟨⟨#[113, 117, 105, 116]⟩, 1, 512⟩,
  ⟨⟨#[109, 117, 108, 116, 105]⟩, 1, 1024⟩,
  ⟨⟨#[101, 120, 101, 99]⟩, 1, 1024⟩,
  ⟨⟨#[100, 105, 115, 99, 97, 114, 100]⟩, 1, 1024⟩,
  ⟨⟨#[119, 97, 116, 99, 104]⟩, -2, 1024⟩,
  ⟨⟨#[117, 110, 119, 97, 116, 99, 104]⟩, 1, 1024⟩,
  ⟨⟨#[115, 117, 98, 115, 99, 114, 105, 98, 101]⟩, -2, 256⟩,
  ⟨⟨#[117, 110, 115, 117, 98, 115, 99, 114, 105, 98, 101]⟩, -1, 256⟩,
  ⟨⟨#[112, 117, 98, 108, 105, 115, 104]⟩, 3, 256⟩,
  ⟨⟨#[97, 99, 108]⟩, -2, 2048⟩]
def CELLS : List Value := TABLE.flatMap cmdCells
theorem table_length : TABLE.length = 56 := rfl
theorem cells_reps {R : CmdD → List Value → Prop} (hR : ∀ c, R c (cmdCells c)) : ∀ l : List CmdD, Reps R 3 l (l.flatMap cmdCells)
  | [] => Reps.none _ _
  | c :: l => Reps.front (hR c) rfl (cells_reps hR l) rfl
theorem kCmd_K (W : World) (c : CmdD) : kCmd.K W c (cmdCells c) := ⟨[.string c.name], [.int .i64 c.arity, .int .u16 c.cats], rfl, rfl, [.int .i64 c.arity], [.int .u16 c.cats], rfl, rfl, rfl⟩

set_option maxHeartbeats 4000000 in
set_option maxRecDepth 100000 in
theorem commands_calls (w : World) : Calls Try.prog 35 #[] w fun e w' => ∃ A c, e = .returned (.slice A 56 c) ∧ Aside0 (Kd.F kCmd w' (fun k => w.heap.size ≤ k) A 56 TABLE) ∧ Below w.heap.size w w' := by
  go_enter Try.func35, Try.ntmps35
  go_wp2_with ((with_reducible refine gate_dst (N := 57) rfl ?_); refine Kd.N_lit kCmd (w0 := w) w.heap.size 26 rfl (N' := 57) rfl (xs := TABLE) (inner := CELLS) (ok := fun k => w.heap.size ≤ k) (okp := fun _ => False) ?hr ?hp (fun _ h => h.elim) (Nat.le_refl _) (Below.refl _ _) (Nat.le_refl _) ?hl ?_; (case hr => exact exec_lit 60 26 56 _ _ rfl rfl _ 3 (.agg #[.string ⟨#[]⟩, .int .i64 0, .int .u16 0]) Try.underlying60 (by kernel_rfl) (by kernel_rfl) (by decide) (by decide) (by kernel_rfl)); (case hp => exact cells_reps (fun c => fun W' _ => kCmd_K W' c) TABLE); (case hl => rw [table_length]; decide); intro v1 w1 hN hb _ _; have HN := Aside0.mk hN; have HB := Aside0.mk hb; clear hN hb)
  go_ret
  obtain ⟨A, c, rfl⟩ := Kd.N_slice HN.out
  exact ⟨A, c, rfl, ⟨Kd.N_F HN.out⟩, HB.out⟩
end Go.Proofs.Ytflnpgfddedahaa.U
