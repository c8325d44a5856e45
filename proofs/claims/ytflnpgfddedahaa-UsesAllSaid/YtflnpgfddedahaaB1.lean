/- strings.Builder's copyCheck at this program: behind it the builder holds its own address, and its bytes as they were. -/
import Derived.Test.YtflnpgfddedahaaB0
import Derived.Great.Walk
import Derived.WalkKit
import Derived.Outline
import Derived.Lib.Builder
import Derived.Below
namespace Go.Proofs.Ytflnpgfddedahaa.U
open Go.RowKit Go Go.Great
set_option linter.unusedVariables false
set_option linter.unusedSimpArgs false
theorem info66m : (Try.prog.info? 66).map (·.size) = some 2 := by kernel_rfl
theorem info66 : ∃ j, Try.prog.info? 66 = some j ∧ j.size = 2 := by
  have h := info66m
  cases hj : Try.prog.info? 66 with
  | none => rw [hj] at h; cases h
  | some j => rw [hj] at h; injection h with h; exact ⟨j, rfl, h⟩
set_option maxHeartbeats 1000000 in
theorem copyCheck_calls (B b : Nat) (bs : List Value) (w : World) (h : Lib.IsBuilder 66 5 B b bs w) :
    Calls Try.prog 48 #[.pointer (some ⟨b, 0, none⟩)] w fun e w' => e = .returned (.tuple #[]) ∧ Lib.BuilderAt 66 5 B b (.pointer (some ⟨b, 0, none⟩)) bs w' ∧ Below B w w' := by
  obtain ⟨j, hj, hj2⟩ := info66
  rcases h with h | h
  · have c0 := h.cell0
    have f0 := h.frozen0
    have hc1 := Lib.run_to_unsafe (P := Try.prog) w (src := 64) (dst := 87) (t := 66) ⟨b, 0, none⟩ Try.underlying64 Try.underlying87 hj (by omega) h.shape (by show 0 < 2; omega)
    have hc2 := Lib.run_from_unsafe (P := Try.prog) w (src := 87) (dst := 64) (u := 66) ⟨b, 0, none⟩ Try.underlying87 Try.underlying64 hj h.shape (by kernel_rfl)
    have hne := noEscape
    go_enter Try.func48, Try.ntmps48
    go_wp2
    refine bodyPost_end0 rfl rfl ⟨rfl, h.used _, ?_⟩
    obtain ⟨hB, _⟩ := h
    exact (Below.refl _ _).setCell (p := ⟨b, 0, none⟩) hB _
  · have c0 := h.cell0
    have hq := Lib.run_neq_ptr_same (P := Try.prog) w (tp := 64) (te := 66) ⟨b, 0, none⟩ Try.underlying64 hj
    go_enter Try.func48, Try.ntmps48
    go_wp2
    exact bodyPost_end0 rfl rfl ⟨rfl, h, Below.refl _ _⟩
end Go.Proofs.Ytflnpgfddedahaa.U
