/- The reference's In: is a text one of some? -/
import Derived.Test.YtflnpgfddedahaaV5
namespace Go.Proofs.Ytflnpgfddedahaa.U
open Go.RowKit Go.Great Go.Proofs.YtflnpgfddedahaaW.PrintWords
set_option linter.unusedVariables false
set_option linter.unusedSimpArgs false
set_option maxHeartbeats 1000000 in
set_option maxRecDepth 100000 in
theorem in_calls (A : Option Addr) (n c : Nat) (ok : Nat → Prop) (xs : List ByteArray) (s : ByteArray) (w : World) (ha : Kd.F Kd.string w ok A n xs) (hs : s ∈ xs) :
    Calls Try.prog 28 #[.slice A n c, .string s] w fun e w' => e = .returned (.bool true) ∧ w' = w := by
  have hmax := Kd.F_max ha
  have HA := Aside0.mk ha
  have HLA := Aside0.mk (Kd.F_len ha)
  have HS := Aside0.mk hs
  clear ha hs
  go_enter Try.func28, Try.ntmps28
  go_wp2_with fail
  go_loopw [5] (fun i wr => ∃ k : Nat, k ≤ n ∧ i = .int .i64 k ∧ Aside0 (∀ j (h : j < xs.length), j < k → (xs[j].toList == s.toList) = false) ∧ wr = w) (fun i _ => n - (intOf i).toNat)
  case atStart => exact ⟨0, Nat.zero_le _, rfl, ⟨fun j _ hj => absurd hj (Nat.not_lt_zero _)⟩, rfl⟩
  case round =>
    obtain ⟨k, hkn, rfl, HE, hwr⟩ := hrel
    subst hwr
    have hkl : k < n := by
      refine Nat.lt_of_le_of_ne hkn (fun e => ?_)
      obtain ⟨j, hj, he⟩ := List.mem_iff_getElem.1 HS.out
      have h1 := HE.out j hj (by have := HLA.out; omega)
      rw [he] at h1
      simp at h1
    obtain ⟨ad, hl, rfl, c0⟩ := text_at HA.out k hkl
    have i0 : (k : Int) < (n : Int) := by omega
    have i2 : (0 : Int) ≤ (k : Int) := by omega
    cases hp : (xs[k].toList == s.toList)
    · go_wp2_with fail
      go_roundw
      case rel => exact ⟨k + 1, by omega, by go_num, ⟨fun j h hj => by
        rcases Nat.lt_succ_iff_lt_or_eq.1 hj with h1 | h1
        · exact HE.out j h h1
        · subst h1; exact hp⟩, trivial⟩
      case measure => simp [intOf]; omega
    · go_wp2_with fail
      go_ret
      exact ⟨rfl, rfl⟩
end Go.Proofs.Ytflnpgfddedahaa.U
