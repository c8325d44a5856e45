/- The reference's At and Fits, of an id that there is. -/
import Derived.Test.YtflnpgfddedahaaR1
namespace Go.Proofs.Ytflnpgfddedahaa.U
open Go.RowKit Go.Proofs.YtflnpgfddedahaaW.PrintWords
set_option linter.unusedVariables false
set_option linter.unusedSimpArgs false
set_option maxHeartbeats 1000000 in
theorem refAt_in (k : Nat) (w : World) (h : k < 56) :
    Calls Try.prog 26 #[.int .i64 k] w fun e w' => e = .returned (.tuple #[cmdV (cmdOf k), .bool true]) ∧ Below w.heap.size w w' := by
  have i0 : (0 : Int) ≤ (k : Int) := by omega
  have i1 : (k : Int) < 56 := by omega
  obtain ⟨cmd, hcmd⟩ : ∃ cmd, cmd = cmdOf k := ⟨_, rfl⟩
  rw [← hcmd]
  have HCMD := Aside0.mk hcmd
  clear hcmd
  go_enter Try.func26, Try.ntmps26
  go_wp2_with (go_at_call 42; refine (refAll_calls _).mono ?_; rintro e w1 ⟨A, c, rfl, HF, hb1⟩; have HX := Aside0.mk (blk_below (blk_new w (.cells #[.string ⟨#[]⟩, .int .i64 0, .int .u16 0] 26)) hb1); have HB := Aside0.mk (step2 (below_alloc (Below.refl _ _) _) hb1); clear hb1; obtain ⟨ad, hl, rfl, c0, c1, c2⟩ := cmd_at HF.out k h; rw [cmdOf_get, ← HCMD.out] at c0 c1 c2; obtain ⟨x0, x1, x2, xf⟩ := cells3 HX.out)
  refine bodyPost_ret (v := .tuple #[cmdV cmd, .bool true]) (by simp [results, Try.results26, go_sem, x0, x1, x2]) rfl ⟨rfl, ?_⟩
  exact three_B HB.out (Nat.le_refl _) _ _ _

set_option maxHeartbeats 1000000 in
theorem refFits_in (k : Nat) (words : Int) (w : World) (h : k < 56) (hw : 0 ≤ words) :
    Calls Try.prog 27 #[.int .i64 k, .int .i64 words] w fun e w' => e = .returned (.bool (fitsB (cmdOf k) words)) ∧ Below w.heap.size w w' := by
  obtain ⟨h1, h2⟩ := arity_bd k h
  have HAT := Aside0.mk (fun w => refAt_in k w h)
  generalize cmdOf k = cmd at *
  clear h
  by_cases e1 : cmd.arity < 0
  · have HR := Aside0.mk (show fitsB cmd words = decide (-cmd.arity ≤ words) from by unfold fitsB; rw [decide_eq_true e1, show (words == cmd.arity) = false from by simp; omega]; rfl)
    go_enter Try.func27, Try.ntmps27
    go_wp2_with (go_at_call 26; refine (HAT.out _).mono ?_; rintro e w1 ⟨rfl, hb1⟩; have HX := Aside0.mk (blk_new w1 (.cells #[.string cmd.name, .int .i64 cmd.arity, .int .u16 cmd.cats] 26)); have HB := Aside0.mk (below_alloc hb1 (.cells #[.string cmd.name, .int .i64 cmd.arity, .int .u16 cmd.cats] 26)); clear hb1)
    go_ret
    exact ⟨ret_b HR.out.symm, HB.out⟩
  · have HR := Aside0.mk (show fitsB cmd words = (words == cmd.arity) from by unfold fitsB; rw [decide_eq_false e1]; simp)
    go_enter Try.func27, Try.ntmps27
    go_wp2_with (go_at_call 26; refine (HAT.out _).mono ?_; rintro e w1 ⟨rfl, hb1⟩; have HX := Aside0.mk (blk_new w1 (.cells #[.string cmd.name, .int .i64 cmd.arity, .int .u16 cmd.cats] 26)); have HB := Aside0.mk (below_alloc hb1 (.cells #[.string cmd.name, .int .i64 cmd.arity, .int .u16 cmd.cats] 26)); clear hb1)
    go_ret
    exact ⟨ret_b HR.out.symm, HB.out⟩
end Go.Proofs.Ytflnpgfddedahaa.U
