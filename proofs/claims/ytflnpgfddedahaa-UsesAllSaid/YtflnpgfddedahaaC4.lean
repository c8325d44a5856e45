/- The head of the table's statements: it tells true. -/
import Derived.Test.YtflnpgfddedahaaC3
namespace Go.Proofs.Ytflnpgfddedahaa.U
open Go.RowKit Go.Proofs.YtflnpgfddedahaaW.PrintWords
set_option linter.unusedVariables false
set_option linter.unusedSimpArgs false
theorem find_get : findI ⟨#[71, 69, 84]⟩ = 0 := by kernel_rfl
theorem fits13 : fitsB (cmdOf 1) 3 = true := by decide
theorem fits03 : fitsB (cmdOf 0) 3 = false := by decide
set_option maxHeartbeats 1000000 in
theorem shown_calls (w : World) : Calls Try.prog 12 #[] w fun e w' => e = .returned (.bool true) ∧ Below w.heap.size w w' := by
  have HA : Aside0 (∀ w : World, Calls Try.prog 14 #[.string ⟨#[71, 69, 84]⟩] w fun e w' => e = .returned (.tuple #[.int .i64 0, .bool true]) ∧ Below w.heap.size w w') := ⟨fun w => by
    have h := find_calls ⟨#[71, 69, 84]⟩ w (by decide)
    rw [find_get] at h
    exact h⟩
  have HB1 : Aside0 (∀ w : World, Calls Try.prog 16 #[.int .i64 1, .int .i64 3] w fun e w' => e = .returned (.bool true) ∧ Below w.heap.size w w') := ⟨fun w => by
    have h := fits_in 1 3 w (by decide)
    rw [fits13] at h
    exact h⟩
  have HB0 : Aside0 (∀ w : World, Calls Try.prog 16 #[.int .i64 0, .int .i64 3] w fun e w' => e = .returned (.bool false) ∧ Below w.heap.size w w') := ⟨fun w => by
    have h := fits_in 0 3 w (by decide)
    rw [fits03] at h
    exact h⟩
  go_enter Try.func12, Try.ntmps12
  go_wp2_with (first | (go_at_call 14; refine (HA.out _).mono ?_; rintro e w1 ⟨rfl, hb1⟩; have HB := Aside0.mk hb1; clear hb1) | (go_at_call_of 16 (Value.int .i64 1); refine (HB1.out _).mono ?_; rintro e w2 ⟨rfl, hb2⟩; have HB := Aside0.mk (step2 HB.out hb2); clear hb2) | (go_at_call_of 16 (Value.int .i64 0); refine (HB0.out _).mono ?_; rintro e w3 ⟨rfl, hb3⟩; have HB := Aside0.mk (step2 HB.out hb3); clear hb3) | (go_at_call 34; refine (count_calls _).mono ?_; rintro e w4 ⟨rfl, hb4⟩; have HB := Aside0.mk (step2 HB.out hb4); clear hb4))
  go_ret
  exact ⟨rfl, HB.out⟩
end Go.Proofs.Ytflnpgfddedahaa.U
