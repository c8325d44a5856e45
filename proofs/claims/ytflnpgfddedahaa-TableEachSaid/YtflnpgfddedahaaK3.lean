/- The statement TableKinds, walked. -/
import Derived.Test.YtflnpgfddedahaaK2
namespace Go.Proofs.Ytflnpgfddedahaa.U
open Go.RowKit Go.Proofs.YtflnpgfddedahaaW.PrintWords
set_option linter.unusedVariables false
set_option linter.unusedSimpArgs false

theorem read_call (w : World) : Calls Try.prog 18 #[.string ⟨#[114, 101, 97, 100]⟩] w fun e w' => e = .returned (.tuple #[.int .u64 (maskOf 0), .bool true]) ∧ Below w.heap.size w w' := cat_calls 0 w (by decide)
theorem write_call (w : World) : Calls Try.prog 18 #[.string ⟨#[119, 114, 105, 116, 101]⟩] w fun e w' => e = .returned (.tuple #[.int .u64 (maskOf 1), .bool true]) ∧ Below w.heap.size w w' := cat_calls 1 w (by decide)

/-- How many of the categories behind the first two, up to the j-th, a command is in. -/
def kindsUpto (k : Nat) : Nat → Int
  | 0 => 0
  | 1 => 0
  | 2 => 0
  | j + 3 => wrap64 (kindsUpto k (j + 2) + wrap64 (bits BinOp.and IntKind.u64 (maskOf (j + 2) / 2 ^ k) 1))
theorem kinds_succ (k j : Nat) (h : 2 ≤ j) : kindsUpto k (j + 1) = wrap64 (kindsUpto k j + wrap64 (bits BinOp.and IntKind.u64 (maskOf j / 2 ^ k) 1)) := by
  obtain ⟨i, rfl⟩ : ∃ i, j = i + 2 := ⟨j - 2, by omega⟩
  rfl
theorem kinds_one : ∀ k : Nat, k < 56 → kindsUpto k 12 = 1 := by decide +kernel
theorem kinds_both : ∀ k : Nat, k < 56 → ((bits BinOp.and IntKind.u64 (bits BinOp.or IntKind.u64 (maskOf 0) (maskOf 1) / 2 ^ k) 1 == 1) == decide ((k : Int) < 43)) = true := by decide +kernel
theorem no_both : (bits BinOp.and IntKind.u64 (maskOf 0) (maskOf 1) != 0) = false := by decide +kernel
set_option maxHeartbeats 1000000 in
set_option maxRecDepth 100000 in
theorem kinds_calls (n : Nat) (w : World) (hn : n < 256) : Calls Try.prog 5 #[.int .u8 n] w fun e w' => e = .returned (.bool true) ∧ Below w.heap.size w w' := by
  obtain ⟨k, hk, hk2⟩ : ∃ k : Nat, (n : Int) % 56 = (k : Int) ∧ k < 56 := ⟨n % 56, by omega, by omega⟩
  have i0 : (0 : Int) ≤ (n : Int) := by omega
  have i1 : (n : Int) ≤ 255 := by omega
  have HR := Aside0.mk read_call
  have HW := Aside0.mk write_call
  obtain ⟨R, hR⟩ : ∃ R, R = maskOf 0 := ⟨_, rfl⟩
  obtain ⟨V, hV⟩ : ∃ V, V = maskOf 1 := ⟨_, rfl⟩
  rw [← hR] at HR
  rw [← hV] at HW
  have HRR := Aside0.mk hR
  have HVV := Aside0.mk hV
  have hrw : (bits BinOp.and IntKind.u64 R V != 0) = false := by rw [hR, hV]; exact no_both
  clear hR hV
  go_enter Try.func5, Try.ntmps5
  go_wp2_with (first | (go_at_call 12; refine (shown_calls _).mono ?_; rintro e w1 ⟨rfl, hb1⟩; have HB := Aside0.mk hb1; clear hb1) | (go_at_call_of 18 (Value.string ⟨#[114, 101, 97, 100]⟩); go_must (refine (HR.out _).mono ?_); rintro e w2 ⟨rfl, hb2⟩; have HB := Aside0.mk (step2 HB.out hb2); clear hb2) | (go_at_call_of 18 (Value.string ⟨#[119, 114, 105, 116, 101]⟩); go_must (refine (HW.out _).mono ?_); rintro e w3 ⟨rfl, hb3⟩; have HB := Aside0.mk (step2 HB.out hb3); clear hb3) | (go_at_call 17; refine (cats_calls _).mono ?_; rintro e w4 ⟨A2, c2, rfl, HF2, hc2, hb4⟩; have HB := Aside0.mk (step2 HB.out hb4); clear hc2 hb4))
  go_loopw [9, 11] (fun m i wr => ∃ j : Nat, 2 ≤ j ∧ j ≤ 12 ∧ i = .int .i64 j ∧ m = .int .i64 (kindsUpto k j) ∧ Aside0 (Below w.heap.size w wr) ∧ Aside0 (Kd.F Kd.string wr (fun b => w3.heap.size ≤ b) A2 12 CATS)) (fun _ i _ => 12 - (intOf i).toNat)
  case atStart => exact ⟨2, by omega, by omega, rfl, rfl, HB, HF2⟩
  case round =>
    obtain ⟨j, hj2, hj12, rfl, rfl, HBr, HFr⟩ := hrel
    by_cases hlt : j < 12
    · obtain ⟨ad, hl, rfl, c0⟩ := text_at HFr.out j hlt
      rw [cats_get] at c0
      have HC := Aside0.mk (fun w => cat_calls j w hlt)
      obtain ⟨Mj, hMj⟩ : ∃ Mj, Mj = maskOf j := ⟨_, rfl⟩
      rw [← hMj] at HC
      obtain ⟨M, hM⟩ : ∃ M, M = kindsUpto k j := ⟨_, rfl⟩
      have HMJ := Aside0.mk (show kindsUpto k (j + 1) = wrap64 (M + wrap64 (bits BinOp.and IntKind.u64 (Mj / 2 ^ k) 1)) from by rw [hM, hMj]; exact kinds_succ k j hj2)
      rw [← hM]
      clear hMj hM
      generalize catName j = nmj at c0 HC
      have j1 : (j : Int) < 12 := by omega
      have j0 : (0 : Int) ≤ (j : Int) := by omega
      go_wp2_with (go_at_call 18; go_must (refine (HC.out _).mono ?_); rintro e w5 ⟨rfl, hb5⟩; have HBn := Aside0.mk (step2 HBr.out hb5); have HFn := Aside0.mk (Kd.F_below HFr.out hb5); clear hb5)
      go_roundw
      case rel => exact ⟨j + 1, by omega, by omega, by go_num, by rw [HMJ.out], HBn, HFn⟩
      case measure => simp [intOf]; omega
    · rw [show kindsUpto k j = 1 from by rw [show j = 12 by omega]; exact kinds_one k hk2]
      have HKB := Aside0.mk (show ((bits BinOp.and IntKind.u64 (bits BinOp.or IntKind.u64 R V / 2 ^ k) 1 == 1) == decide ((k : Int) < 43)) = true from by rw [HRR.out, HVV.out]; exact kinds_both k hk2)
      go_wp2_with fail
      go_ret
      exact ⟨ret_b HKB.out, HBr.out⟩
end Go.Proofs.Ytflnpgfddedahaa.U
