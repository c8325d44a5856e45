/- Whether two rows of texts are the same: the reference's Texts, in whatever memory. -/
import Derived.Test.YtflnpgfddedahaaU9
namespace Go.Proofs.Ytflnpgfddedahaa.U
open Go.RowKit Go.Maps Go.Proofs.YtflnpgfddedahaaW.PrintWords
set_option linter.unusedVariables false
set_option linter.unusedSimpArgs false

theorem ret_bool {a b : Bool} (h : a = b) : Ending.returned (.bool a) = .returned (.bool b) := by rw [h]
/-- Are two rows the same? -/
def sameTexts (xs ys : List ByteArray) : Bool := xs.map (·.toList) == ys.map (·.toList)
theorem same_len {xs ys : List ByteArray} (h : xs.length ≠ ys.length) : sameTexts xs ys = false := by
  unfold sameTexts
  rw [beq_eq_false_iff_ne]
  intro e
  have := congrArg List.length e
  simp at this
  exact h this
theorem same_no {xs ys : List ByteArray} (k : Nat) (h1 : k < xs.length) (h2 : k < ys.length) (h : (xs[k].toList == ys[k].toList) = false) : sameTexts xs ys = false := by
  unfold sameTexts
  rw [beq_eq_false_iff_ne]
  intro e
  rw [beq_eq_false_iff_ne] at h
  apply h
  have := congrArg (fun l => l[k]?) e
  simpa [List.getElem?_map, List.getElem?_eq_getElem h1, List.getElem?_eq_getElem h2] using this
theorem same_yes {xs ys : List ByteArray} (h : xs.length = ys.length) (he : ∀ j (h1 : j < xs.length) (h2 : j < ys.length), (xs[j].toList == ys[j].toList) = true) : sameTexts xs ys = true := by
  unfold sameTexts
  rw [beq_iff_eq]
  apply List.ext_getElem
  · simpa using h
  · intro j h1 h2
    simp only [List.length_map] at h1 h2
    simpa using he j h1 h2
theorem same_self (xs : List ByteArray) : sameTexts xs xs = true := by simp [sameTexts]

set_option maxHeartbeats 1000000 in
set_option maxRecDepth 100000 in
theorem texts_calls (A B : Option Addr) (n c m d : Nat) (oka okb : Nat → Prop) (xs ys : List ByteArray) (w : World) (ha : Kd.F Kd.string w oka A n xs) (hb : Kd.F Kd.string w okb B m ys) :
    Calls Try.prog 24 #[.slice A n c, .slice B m d] w fun e w' => e = .returned (.bool (sameTexts xs ys)) ∧ ∃ j, w' = w.drewN j := by
  have hmax := Kd.F_max ha
  have hla := Kd.F_len ha
  have hlb := Kd.F_len hb
  have HA := Aside0.mk ha
  have HB := Aside0.mk hb
  have HLA := Aside0.mk hla
  have HLB := Aside0.mk hlb
  clear ha hb
  by_cases hnm : n = m
  · clear hla hlb
    have hq : ((n : Int) != (m : Int)) = false := by simp [hnm]
    have HNM := Aside0.mk hnm
    clear hnm
    go_enter Try.func24, Try.ntmps24
    go_wp2_with fail
    go_loopw [5] (fun i wr => ∃ k : Nat, k ≤ n ∧ i = .int .i64 k ∧ Aside0 (∃ j, wr = w.drewN j) ∧ Aside0 (∀ j (h1 : j < xs.length) (h2 : j < ys.length), j < k → (xs[j].toList == ys[j].toList) = true)) (fun i _ => n - (intOf i).toNat)
    case atStart => exact ⟨0, Nat.zero_le _, rfl, ⟨0, rfl⟩, ⟨fun j _ _ hj => absurd hj (Nat.not_lt_zero _)⟩⟩
    case round =>
      obtain ⟨k, hkn, rfl, HW, HE⟩ := hrel
      by_cases hlt : k < n
      · obtain ⟨j0, hw⟩ := HW.out
        subst hw
        obtain ⟨ad, h1, rfl, c0⟩ := text_at HA.out k hlt
        obtain ⟨bd, h2, rfl, c1⟩ := text_at HB.out k (by have := HNM.out; omega)
        have i0 : (k : Int) < (n : Int) := by omega
        have i1 : (k : Int) < (m : Int) := by have := HNM.out; omega
        have i2 : (0 : Int) ≤ (k : Int) := by omega
        cases hp : (xs[k].toList == ys[k].toList)
        · have hp2 : (xs[k].toList != ys[k].toList) = true := by rw [bne, hp]; rfl
          go_wp2_with fail
          go_quiet (fail)
          go_wp2
          go_ret
          exact ⟨ret_bool (same_no k h1 h2 hp).symm, _, World.drewN_drewN _ _ _⟩
        · have hp2 : (xs[k].toList != ys[k].toList) = false := by rw [bne, hp]; rfl
          have HP := Aside0.mk hp
          go_wp2_with fail
          go_quiet (fail)
          go_wp2
          go_roundw
          case rel => exact ⟨k + 1, by omega, by go_num, ⟨_, rfl⟩, ⟨fun j h1 h2 hlt' => by
            rcases Nat.lt_succ_iff_lt_or_eq.1 hlt' with h3 | h3
            · exact HE.out j h1 h2 h3
            · subst h3; exact HP.out⟩⟩
          case measure => simp [intOf]; omega
      · go_wp2_with fail
        go_ret
        exact ⟨ret_bool (same_yes (by have := HLA.out; have := HLB.out; have := HNM.out; omega) (fun j h1 h2 => HE.out j h1 h2 (by have := HLA.out; omega))).symm, HW.out⟩
  · have hq : ((n : Int) != (m : Int)) = true := by simp; omega
    go_enter Try.func24, Try.ntmps24
    go_wp2_with fail
    go_ret
    exact ⟨ret_bool (same_len (by omega)).symm, 0, rfl⟩

end Go.Proofs.Ytflnpgfddedahaa.U
