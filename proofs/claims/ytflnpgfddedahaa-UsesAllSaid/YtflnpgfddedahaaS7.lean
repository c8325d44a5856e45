/- The reference's keys of a request, as those that are needed. -/
import Derived.Test.YtflnpgfddedahaaS4
import Derived.Test.YtflnpgfddedahaaS6
namespace Go.Proofs.Ytflnpgfddedahaa.U
open Go.RowKit Go.Great Go.Proofs.YtflnpgfddedahaaW.PrintWords
set_option linter.unusedVariables false
set_option linter.unusedSimpArgs false
/-- A command's kind, by which of the names its name is. -/
def keyKind (k : Nat) : Bool :=
  if KPOS.getD k 99 < 15 then decide (kindAt k = some (.one true false)) && decide (2 ≤ (cmdOf k).arity ∨ (cmdOf k).arity ≤ -2)
  else if KPOS.getD k 99 < 33 then decide (kindAt k = some (.one true true)) && decide (2 ≤ (cmdOf k).arity ∨ (cmdOf k).arity ≤ -2)
  else if KPOS.getD k 99 = 33 then decide (kindAt k = some (.fn 49)) && decide (2 ≤ (cmdOf k).arity ∨ (cmdOf k).arity ≤ -2)
  else if KPOS.getD k 99 = 34 then decide (kindAt k = some (.fn 52)) && decide (3 ≤ (cmdOf k).arity ∨ (cmdOf k).arity ≤ -3)
  else if KPOS.getD k 99 = 35 then decide (kindAt k = some (.fn 53)) && decide (3 ≤ (cmdOf k).arity ∨ (cmdOf k).arity ≤ -3)
  else if KPOS.getD k 99 < 39 then decide (kindAt k = some (.each 1 true false))
  else if KPOS.getD k 99 = 39 then decide (kindAt k = some (.each 1 true true))
  else if KPOS.getD k 99 = 40 then decide (kindAt k = some (.each 2 false true)) && decide (k = 8)
  else decide (KPOS.getD k 99 = 99) && (match kindAt k with | none => true | some (.fn f) => f != 49 && f != 52 && f != 53 | _ => false)
theorem key_kinds : ∀ k : Nat, k < 56 → keyKind k = true := by decide +kernel
theorem need_none (k : Nat) (xs : List ByteArray) (h : (match kindAt k with | none => true | some (.fn f) => f != 49 && f != 52 && f != 53 | _ => false) = true) : (needOf k xs).keys = [] := by
  unfold needOf
  generalize kindAt k = o at *
  cases o with
  | none => rfl
  | some t =>
    cases t with
    | one r w => cases h
    | each s r w => cases h
    | fn f =>
      simp only [Bool.and_eq_true, bne_iff_ne] at h
      obtain ⟨⟨h1, h2⟩, h3⟩ := h
      by_cases h4 : f = 54
      · subst h4; rfl
      by_cases h5 : f = 55
      · subst h5; rfl
      by_cases h6 : f = 56
      · subst h6; rfl
      by_cases h7 : f = 57
      · subst h7; rfl
      by_cases h8 : f = 59
      · subst h8; rfl
      simp [h1, h2, h3, h4, h5, h6, h7, h8]
theorem keys_calls (k : Nat) (hk : k < 56) (A : Option Addr) (n cp : Nat) (xs : List ByteArray) (ok : Nat → Prop) (W : World) (hF : Kd.F Kd.string W ok A n xs) (hf : fitsB (cmdOf k) (n : Int) = true) (h8 : k = 8 → n % 2 = 1) (hn6 : n ≤ 1000000) (h1n : 1 ≤ n) :
    Calls Try.prog 46 #[.string (cmdOf k).name, .slice A n cp] W fun e W' => RowSaid kUse (needOf k xs).keys W e W' := by
  have hl := Kd.F_len hF
  have hp : ∀ i, i < 41 → ((cmdOf k).name.toList == KLITS.getD i []) = (KPOS.getD k 99 == i) := fun i hi => by rw [ByteArray.toList_eq]; exact key_pos k hk i hi
  have hkk := key_kinds k hk
  have least := fits_least hf
  unfold keyKind at hkk
  generalize KPOS.getD k 99 = p at *
  by_cases q1 : p < 15
  · rw [if_pos q1] at hkk
    simp only [Bool.and_eq_true, decide_eq_true_eq] at hkk
    have e : (needOf k xs).keys = [⟨word xs 1, true, false⟩] := by unfold needOf; rw [hkk.1]
    rw [e]
    exact key_read _ A n cp xs ok W p (Nat.zero_le _) q1 hp hF (least 2 (by omega))
  rw [if_neg q1] at hkk
  by_cases q2 : p < 33
  · rw [if_pos q2] at hkk
    simp only [Bool.and_eq_true, decide_eq_true_eq] at hkk
    have e : (needOf k xs).keys = [⟨word xs 1, true, true⟩] := by unfold needOf; rw [hkk.1]
    rw [e]
    exact key_both _ A n cp xs ok W p (by omega) q2 hp hF (least 2 (by omega))
  rw [if_neg q2] at hkk
  by_cases q3 : p = 33
  · rw [if_pos q3] at hkk
    simp only [Bool.and_eq_true, decide_eq_true_eq] at hkk
    have e : (needOf k xs).keys = [⟨word xs 1, decide ((3 : Int) < xs.length), true⟩] := by unfold needOf; rw [hkk.1]; rfl
    rw [e, hl]
    by_cases h3 : (3 : Int) < (n : Int)
    · rw [decide_eq_true h3]
      exact key_set3 _ A n cp xs ok W p (by omega) (by omega) hp hF (least 2 (by omega)) h3
    · rw [decide_eq_false h3]
      exact key_set2 _ A n cp xs ok W p (by omega) (by omega) hp hF (least 2 (by omega)) h3
  rw [if_neg q3] at hkk
  by_cases q4 : p = 34
  · rw [if_pos q4] at hkk
    simp only [Bool.and_eq_true, decide_eq_true_eq] at hkk
    have e : (needOf k xs).keys = [⟨word xs 1, true, true⟩, ⟨word xs 2, false, true⟩] := by unfold needOf; rw [hkk.1]; rfl
    rw [e]
    exact key_rename _ A n cp xs ok W p (by omega) (by omega) hp hF (least 3 (by omega))
  rw [if_neg q4] at hkk
  by_cases q5 : p = 35
  · rw [if_pos q5] at hkk
    simp only [Bool.and_eq_true, decide_eq_true_eq] at hkk
    have e : (needOf k xs).keys = [⟨word xs 1, true, true⟩, ⟨word xs 2, true, true⟩] := by unfold needOf; rw [hkk.1]; rfl
    rw [e]
    exact key_smove _ A n cp xs ok W p (by omega) (by omega) hp hF (least 3 (by omega))
  rw [if_neg q5] at hkk
  by_cases q6 : p < 39
  · rw [if_pos q6] at hkk
    simp only [decide_eq_true_eq] at hkk
    have e : (needOf k xs).keys = eachUpto 1 true false xs (n - 1) := by unfold needOf; rw [hkk]; simp only [if_neg (show ¬ (1 : Int) = 2 by decide), hl]; congr 1; omega
    rw [e]
    exact key_each _ A n cp xs ok W p (by omega) q6 hp hF (n - 1) (by omega) hn6
  rw [if_neg q6] at hkk
  by_cases q7 : p = 39
  · rw [if_pos q7] at hkk
    simp only [decide_eq_true_eq] at hkk
    have e : (needOf k xs).keys = eachUpto 1 true true xs (n - 1) := by unfold needOf; rw [hkk]; simp only [if_neg (show ¬ (1 : Int) = 2 by decide), hl]; congr 1; omega
    rw [e]
    exact key_del _ A n cp xs ok W p (by omega) (by omega) hp hF (n - 1) (by omega) hn6
  rw [if_neg q7] at hkk
  by_cases q8 : p = 40
  · rw [if_pos q8] at hkk
    simp only [Bool.and_eq_true, decide_eq_true_eq] at hkk
    have hpar := h8 hkk.2
    have e : (needOf k xs).keys = eachUpto 2 false true xs (n / 2) := by unfold needOf; rw [hkk.1]; simp only [if_true, hl]; congr 1
    rw [e]
    exact key_mset _ A n cp xs ok W p (by omega) (by omega) hp hF (n / 2) (by omega) hn6
  rw [if_neg q8] at hkk
  simp only [Bool.and_eq_true, decide_eq_true_eq] at hkk
  rw [need_none k xs hkk.2]
  exact key_none _ A n cp xs ok W p (by omega) (by omega) hp hF
end Go.Proofs.Ytflnpgfddedahaa.U
