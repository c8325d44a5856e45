/- uses.use: a key more in a need. -/
import Derived.Test.YtflnpgfddedahaaK1
import Derived.Test.YtflnpgfddedahaaWMore
import Derived.Test.YtflnpgfddedahaaWNEv
import Derived.Great.Walk
namespace Go.Proofs.Ytflnpgfddedahaa.U
open Go.RowKit Go.Great Go.Proofs.YtflnpgfddedahaaW.PrintWords
set_option linter.unusedVariables false
set_option linter.unusedSimpArgs false

structure UseD where
  key : ByteArray
  r : Bool
  w : Bool
def kUse : Kd UseD := Kd.iso (Kd.pair Kd.string (Kd.pair Kd.bool Kd.bool)) (fun x : UseD => (x.key, x.r, x.w))
theorem info56 : (Try.prog.info? 56).map (fun i => (i.zero, i.size, i.bytes)) = some (some (.agg #[.string ⟨#[]⟩, .bool false, .bool false]), 3, 24) := by kernel_rfl
theorem kUse_FK (W : World) (ok : Nat → Prop) (u : UseD) : Kd.FK kUse W ok u [.string u.key, .bool u.r, .bool u.w] := fun _ _ => ⟨[.string u.key], [.bool u.r, .bool u.w], rfl, rfl, [.bool u.r], [.bool u.w], rfl, rfl, rfl⟩
/-- A need's block: the command, the row of keys, whether all are read, written, the channels. -/
abbrev needB (c : Int) (v : Value) (aR aW : Bool) (ch : Value) : Obj := .cells #[.int .i64 c, v, .bool aR, .bool aW, ch] 46
theorem cells5' {W : World} {g : Nat} {a b c d e : Value} (h : W.heap[g]? = some (.cells #[a, b, c, d, e] 46 (0, 0))) :
    W.cell? ⟨g, 0, none⟩ = some a ∧ W.cell? ⟨g, 1, none⟩ = some b ∧ W.cell? ⟨g, 2, none⟩ = some c ∧ W.cell? ⟨g, 3, none⟩ = some d ∧ W.cell? ⟨g, 4, none⟩ = some e ∧ ∀ o, W.frozen? ⟨g, o, none⟩ = false :=
  ⟨(blk_cell h 0).trans rfl, (blk_cell h 1).trans rfl, (blk_cell h 2).trans rfl, (blk_cell h 3).trans rfl, (blk_cell h 4).trans rfl, fun o => blk_frozen h o⟩

set_option maxHeartbeats 1000000 in
theorem use_calls (g base : Nat) (c : Int) (v : Value) (aR aW : Bool) (ch : Value) (xs : List UseD) (u : UseD) (W : World) (hg : W.heap[g]? = some (needB c v aR aW ch)) (hN : Kd.N kUse 56 W base (fun k => base ≤ k) v xs) (hgb : g < base) (hbW : base ≤ W.heap.size) (hl : xs.length ≤ 1000000) :
    Calls Try.prog 50 #[.pointer (some ⟨g, 0, none⟩), .string u.key, .bool u.r, .bool u.w] W fun e W' => e = .returned (.tuple #[]) ∧ ∃ v', Aside0 (W'.heap[g]? = some (needB c v' aR aW ch)) ∧ Aside0 (Kd.N kUse 56 W' base (fun k => base ≤ k) v' (xs ++ [u])) ∧ Aside0 (∀ k, k < base → k ≠ g → W'.heap[k]? = W.heap[k]?) ∧ Aside0 (Below g W W') := by
  obtain ⟨A, cp, rfl⟩ := Kd.N_slice hN
  obtain ⟨x0, x1, x2, x3, x4, xf⟩ := cells5' hg
  have HL1 : Aside0 ((xs ++ [u]).length = xs.length + 1) := ⟨by simp⟩
  have HX := Aside0.mk hg
  have HN := Aside0.mk hN
  clear hg hN
  go_enter Try.func50, Try.ntmps50
  go_wp2_with ((with_reducible refine gate_builtin (b := .append) (xs := #[.tmp 12, .tmp 17]) rfl ?_); at_builtin; go_must (refine Kd.N_append kUse (w0 := W) base rfl (.tmp 12) (.tmp 17) 44 56 (.agg #[.string ⟨#[]⟩, .bool false, .bool false]) 24 rfl Try.underlying44 info56 rfl (Nat.le_add_left _ _) (Nat.le_add_left _ _) (.slice A xs.length cp) xs u [.string u.key, .bool u.r, .bool u.w] (fun k => base ≤ k) (fun _ => False) ?hs ?hx ?x1 (fun _ h => h.elim) ?x3 HN.out (Below.refl _ _) hbW ?x7 ?_); (case hs => rfl); (case hx => rfl); (case x1 => exact kUse_FK _ _ u); (case x3 => exact fun k hk => Nat.le_trans hbW hk); (case x7 => omega); intro v3 w3 hN3 hb3 hg3 _; obtain ⟨A3, c3, rfl⟩ := Kd.N_slice hN3; rw [HL1.out] at hN3; have X3 := Aside0.mk (blk_grown HX.out hg3 (Kd.N_away HN.out (fun b hb => by omega))); have KK := Aside0.mk (show ∀ k, k < base → w3.heap[k]? = W.heap[k]? from fun k hk => hg3.block k (Nat.lt_of_lt_of_le hk hbW) (Kd.N_away HN.out (fun b hb => by omega))); obtain ⟨y0, y1, y2, y3, y4, yf⟩ := cells5' X3.out; have HN3 := Aside0.mk hN3; have HB3 := Aside0.mk hb3; clear hN3 hb3 hg3)

  refine bodyPost_end0 rfl rfl ⟨rfl, _, ⟨(blk_set X3.out 1 _).trans rfl⟩, ⟨Kd.N_far (p := ⟨g, 1, none⟩) HN3.out (fun b hb => by show b ≠ g; omega) _⟩, ⟨fun k hk hkg => (Below.heap_setCell _ _ _ _ hkg).trans (KK.out k hk)⟩, ⟨?_⟩⟩
  exact (HB3.out.mono (Nat.le_of_lt hgb)).setCell (p := ⟨g, 1, none⟩) (Nat.le_refl _) _
end Go.Proofs.Ytflnpgfddedahaa.U
