/- table.Cat: what it comes to. -/
import Derived.Test.YtflnpgfddedahaaK1
namespace Go.Proofs.Ytflnpgfddedahaa.U
open Go.RowKit Go.Proofs.YtflnpgfddedahaaW.PrintWords
set_option linter.unusedVariables false
set_option linter.unusedSimpArgs false

/-- The category of a name; -1. -/
def catI (key : ByteArray) : Int := idx (fun x : ByteArray => key.toList == x.toList) CATS
def isAll (key : ByteArray) : Bool := key.toList == [97, 108, 108]

/-- The bits of the commands of a category, up to the k-th. -/
def maskUpto (a : Nat) : Nat → Int
  | 0 => 0
  | k + 1 => bits BinOp.or IntKind.u64 (maskUpto a k) (IntKind.u64.wrap (IntKind.u64.wrap (bits BinOp.and IntKind.u16 ((cmdOf k).cats / 2 ^ a) 1) * 2 ^ k))
def maskOf (a : Nat) : Int := maskUpto a 56

set_option maxHeartbeats 1000000 in
theorem cat_at (key : ByteArray) (a : Nat) (w : World) (h1 : isAll key = false) (h2 : catI key = a) (ha : a < 12) :
    Calls Try.prog 18 #[.string key] w fun e w' => e = .returned (.tuple #[.int .u64 (maskOf a), .bool true]) ∧ Below w.heap.size w w' := by
  have hq : (key.toList == [97, 108, 108]) = false := h1
  have HI := Aside0.mk h2
  clear h1 h2
  go_enter Try.func18, Try.ntmps18
  go_wp2_with (first | (go_at_call 35; refine (commands_calls _).mono ?_; rintro e w1 ⟨A, c, rfl, HF, hb1⟩; have HB := Aside0.mk hb1; clear hb1) | (go_at_call 17; refine (cats_calls _).mono ?_; rintro e w2 ⟨A2, c2, rfl, HF2, hc2, hb2⟩; have HB := Aside0.mk (step2 HB.out hb2); clear hc2; have HF := Aside0.mk (Kd.F_below HF.out hb2); clear hb2) | (go_at_call 40; go_must (refine (textIndex_calls A2 12 c2 _ CATS key _ HF2.out).mono ?_); rintro e w3 ⟨rfl, rfl⟩; rw [show idx (fun x : ByteArray => key.toList == x.toList) CATS = _ from HI.out]))
  go_loop [6, 22] (fun m i => ∃ k : Nat, k ≤ 56 ∧ i = .int .i64 k ∧ m = .int .u64 (maskUpto a k)) (fun _ i => 56 - (intOf i).toNat)
  case atStart => exact ⟨0, Nat.zero_le _, rfl, rfl⟩
  case round =>
    obtain ⟨k, hkn, rfl, rfl⟩ := hrel
    by_cases hlt : k < 56
    · obtain ⟨ad, hl, rfl, c0, c1, c3⟩ := cmd_at HF.out k hlt
      rw [cmdOf_get] at c0 c1 c3
      obtain ⟨M, hM⟩ : ∃ M, M = maskUpto a k := ⟨_, rfl⟩
      have HM := Aside0.mk (show maskUpto a (k + 1) = bits BinOp.or IntKind.u64 M (IntKind.u64.wrap (IntKind.u64.wrap (bits BinOp.and IntKind.u16 ((cmdOf k).cats / 2 ^ a) 1) * 2 ^ k)) from by rw [hM]; rfl)
      rw [← hM]
      clear hM
      go_wp2_with fail
      go_round
      case rel => exact ⟨k + 1, by omega, by go_num, by rw [HM.out]⟩
      case measure => simp [intOf]; omega
    · obtain ⟨M, hM⟩ : ∃ M, M = maskUpto a k := ⟨_, rfl⟩
      have HM := Aside0.mk (show maskOf a = M from by rw [hM, show k = 56 by omega]; rfl)
      rw [← hM]
      clear hM
      go_wp2_with fail
      go_ret2
      exact ⟨by rw [HM.out]; rfl, HB.out⟩

set_option maxHeartbeats 1000000 in
theorem cat_none (key : ByteArray) (w : World) (h1 : isAll key = false) (h2 : catI key = -1) :
    Calls Try.prog 18 #[.string key] w fun e w' => e = .returned (.tuple #[.int .u64 0, .bool false]) ∧ Below w.heap.size w w' := by
  have hq : (key.toList == [97, 108, 108]) = false := h1
  have HI := Aside0.mk h2
  clear h1 h2
  go_enter Try.func18, Try.ntmps18
  go_wp2_with (first | (go_at_call 35; refine (commands_calls _).mono ?_; rintro e w1 ⟨A, c, rfl, HF, hb1⟩; have HB := Aside0.mk hb1; clear hb1) | (go_at_call 17; refine (cats_calls _).mono ?_; rintro e w2 ⟨A2, c2, rfl, HF2, hc2, hb2⟩; have HB := Aside0.mk (step2 HB.out hb2); clear hc2 hb2) | (go_at_call 40; go_must (refine (textIndex_calls A2 12 c2 _ CATS key _ HF2.out).mono ?_); rintro e w3 ⟨rfl, rfl⟩; rw [show idx (fun x : ByteArray => key.toList == x.toList) CATS = _ from HI.out]))
  go_ret2
  exact ⟨rfl, HB.out⟩

set_option maxHeartbeats 1000000 in
theorem cat_all (key : ByteArray) (w : World) (h1 : isAll key = true) :
    Calls Try.prog 18 #[.string key] w fun e w' => e = .returned (.tuple #[.int .u64 72057594037927935, .bool true]) ∧ Below w.heap.size w w' := by
  have hq : (key.toList == [97, 108, 108]) = true := h1
  clear h1
  go_enter Try.func18, Try.ntmps18
  go_wp2_with (go_at_call 35; refine (commands_calls _).mono ?_; rintro e w1 ⟨A, c, rfl, HF, hb1⟩; have HB := Aside0.mk hb1; clear hb1)
  go_ret2
  exact ⟨by first | rfl | decide, HB.out⟩
/-- A category by its number. -/
def catName (a : Nat) : ByteArray := CATS.getD a ⟨#[]⟩
theorem cats_get (a : Nat) (h : a < CATS.length) : CATS[a] = catName a := by
  unfold catName
  rw [List.getD_eq_getElem?_getD, List.getElem?_eq_getElem h]
  rfl
theorem cats_at : ∀ a : Nat, a < 12 → idx (fun x : ByteArray => (catName a).data.toList == x.data.toList) CATS = (a : Int) := by decide +kernel
theorem catI_data (key : ByteArray) : catI key = idx (fun x : ByteArray => key.data.toList == x.data.toList) CATS := by
  unfold catI
  congr 1
  funext x
  rw [ByteArray.toList_eq, ByteArray.toList_eq]
theorem catI_at (a : Nat) (h : a < 12) : catI (catName a) = a := by rw [catI_data]; exact cats_at a h
theorem not_all : ∀ a : Nat, a < 12 → ((catName a).data.toList == [97, 108, 108]) = false := by decide
theorem isAll_at (a : Nat) (h : a < 12) : isAll (catName a) = false := by
  unfold isAll
  rw [ByteArray.toList_eq]
  exact not_all a h
theorem cat_calls (a : Nat) (w : World) (h : a < 12) : Calls Try.prog 18 #[.string (catName a)] w fun e w' => e = .returned (.tuple #[.int .u64 (maskOf a), .bool true]) ∧ Below w.heap.size w w' :=
  cat_at (catName a) a w (isAll_at a h) (catI_at a h) h
end Go.Proofs.Ytflnpgfddedahaa.U
