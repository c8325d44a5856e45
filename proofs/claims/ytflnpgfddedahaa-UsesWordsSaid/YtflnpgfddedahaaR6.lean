/- What UsesWords leans on: plain laws of what is needed. -/
import Derived.Test.YtflnpgfddedahaaR4
namespace Go.Proofs.Ytflnpgfddedahaa.U
open Go.RowKit Go.Great Go.Proofs.YtflnpgfddedahaaW.PrintWords
set_option linter.unusedVariables false
set_option linter.unusedSimpArgs false
theorem word_in (nm : ByteArray) (ys : List ByteArray) (i : Nat) (h : i < ys.length) : word (nm :: ys) (i + 1) ∈ ys := by
  show word ys i ∈ ys
  unfold word
  rw [List.getD_eq_getElem?_getD, List.getElem?_eq_getElem h]
  exact List.getElem_mem h
/-- How the keys of a command are used: whether a key may be written, whether one is. -/
def writesLen (k n : Nat) : Nat := match kindAt k with
  | some (.one _ w) => if w then 1 else 0
  | some (.each s _ w) => if w then (if s = 2 then (n + 2 - 2) / 2 else (n + 1 - 2) / 1) else 0
  | some (.fn 49) => 1
  | some (.fn 52) => 2
  | some (.fn 53) => 2
  | _ => 0
/-- No key is neither read nor written; none is written by a command that reads. -/
def usesOk (k : Nat) : Bool := match kindAt k with
  | some (.one r w) => (r || w) && !(decide ((cmdOf k).cats % 2 = 1) && w)
  | some (.each _ r w) => (r || w) && !(decide ((cmdOf k).cats % 2 = 1) && w)
  | some (.fn f) => if f = 49 ∨ f = 52 ∨ f = 53 then !(decide ((cmdOf k).cats % 2 = 1)) else true
  | _ => true
theorem uses_ok : ∀ k : Nat, k < 56 → usesOk k = true := by decide +kernel
def NeedOk (k : Nat) (ys : List ByteArray) (d : NeedD) : Prop :=
  (∀ u ∈ d.keys, u.key ∈ ys ∧ (u.r || u.w) = true ∧ ((cmdOf k).cats % 2 = 1 → u.w = false)) ∧ (∀ c ∈ d.chans, c ∈ ys)
theorem keysOf_map (r w : Bool) (f : Nat → ByteArray) (m : Nat) : (keysOf (·.w) ((List.range m).map fun q => (⟨f q, r, w⟩ : UseD))).length = if w then m else 0 := by
  unfold keysOf
  cases w
  · rw [List.filter_eq_nil_iff.2 (by intro u hu; simp only [List.mem_map] at hu; obtain ⟨q, _, rfl⟩ := hu; simp)]
    rfl
  · rw [List.filter_eq_self.2 (by intro u hu; simp only [List.mem_map] at hu; obtain ⟨q, _, rfl⟩ := hu; rfl)]
    simp
theorem each_writes (s : Nat) (r w : Bool) (xs : List ByteArray) (m : Nat) : (keysOf (·.w) (eachUpto s r w xs m)).length = if w then m else 0 := keysOf_map r w _ m
theorem writes_len (k : Nat) (xs : List ByteArray) : (keysOf (·.w) (needOf k xs).keys).length = writesLen k xs.length := by
  unfold needOf writesLen
  generalize kindAt k = o
  cases o with
  | none => rfl
  | some t =>
    cases t with
    | one r w => cases w <;> rfl
    | each s r w =>
      by_cases h : s = 2
      · subst h
        exact each_writes _ _ _ _ _
      · simp only [if_neg h]
        exact each_writes _ _ _ _ _
    | fn f =>
      by_cases h1 : f = 49
      · subst h1; rfl
      by_cases h2 : f = 52
      · subst h2; rfl
      by_cases h3 : f = 53
      · subst h3; rfl
      by_cases h4 : f = 54
      · subst h4; rfl
      by_cases h5 : f = 55
      · subst h5; rfl
      by_cases h6 : f = 56
      · subst h6; rfl
      by_cases h7 : f = 57
      · subst h7; rfl
      by_cases h8 : f = 59
      · subst h8; rfl
      simp [h1, h2, h3, h4, h5, h6, h7, h8]
      rfl
theorem each_in {s : Nat} {r w : Bool} {nm : ByteArray} {ys : List ByteArray} {m : Nat} (h : ∀ q < m, s * q < ys.length) (u : UseD) (hu : u ∈ eachUpto s r w (nm :: ys) m) : u.key ∈ ys ∧ u.r = r ∧ u.w = w := by
  unfold eachUpto at hu
  simp only [List.mem_map, List.mem_range] at hu
  obtain ⟨q, hq, rfl⟩ := hu
  refine ⟨?_, rfl, rfl⟩
  have h1 := word_in nm ys (s * q) (h q hq)
  rw [Nat.add_comm] at h1
  exact h1
theorem need_ok (k : Nat) (hk : k < 56) (nm : ByteArray) (ys : List ByteArray) (hf : fitsB (cmdOf k) ((ys.length + 1 : Nat) : Int) = true) (h8 : k = 8 → (ys.length + 1) % 2 = 1) : NeedOk k ys (needOf k (nm :: ys)) := by
  have hu := uses_ok k hk
  have hko := (kinds_ok k hk).1
  have least := fits_least hf
  unfold needOf
  unfold usesOk at hu
  unfold kindOk at hko
  cases ho : kindAt k with
  | none => exact ⟨fun u h => (by cases h), fun c h => by cases h⟩
  | some t =>
    rw [ho] at hu hko
    cases t with
    | one r w =>
      simp only [Bool.and_eq_true, Bool.not_eq_true', Bool.and_eq_false_iff, decide_eq_false_iff_not, decide_eq_true_eq] at hu hko
      have hl := least 2 (by omega)
      refine ⟨fun u h => ?_, fun c h => by cases h⟩
      simp only [List.mem_singleton] at h
      subst h
      exact ⟨word_in nm ys 0 (by omega), hu.1, fun h => by rcases hu.2 with h1 | h1; exact absurd h h1; exact h1⟩
    | each s r w =>
      simp only [Bool.and_eq_true, Bool.not_eq_true', Bool.and_eq_false_iff, decide_eq_false_iff_not, Bool.or_eq_true, beq_iff_eq] at hu hko
      have fin : ∀ u : UseD, u.key ∈ ys ∧ u.r = r ∧ u.w = w → u.key ∈ ys ∧ (u.r || u.w) = true ∧ ((cmdOf k).cats % 2 = 1 → u.w = false) := fun u ⟨a, b, c⟩ => ⟨a, by rw [b, c]; simpa using hu.1, fun h => by rw [c]; rcases hu.2 with h1 | h1; exact absurd h h1; exact h1⟩
      by_cases h : s = 2
      · subst h
        refine ⟨fun u h => fin u (each_in (fun q hq => ?_) u h), fun c h => by cases h⟩
        simp only [List.length_cons] at hq
        rcases hko with h1 | h1
        · exact absurd h1.1 (by decide)
        · have := h8 h1.2; omega
      · simp only [if_neg h]
        refine ⟨fun u h => fin u (each_in (fun q hq => ?_) u h), fun c h => by cases h⟩
        simp only [List.length_cons] at hq
        omega
    | fn f =>
      have go2 : ∀ (r w : Bool) (i : Nat), i < ys.length → (f = 49 ∨ f = 52 ∨ f = 53) → (r || w) = true → ∀ u : UseD, u = ⟨word (nm :: ys) (i + 1), r, w⟩ → u.key ∈ ys ∧ (u.r || u.w) = true ∧ ((cmdOf k).cats % 2 = 1 → u.w = false) := fun r w i hi hf hrw u hue => by
        subst hue
        simp only [if_pos hf, Bool.not_eq_true', decide_eq_false_iff_not] at hu
        exact ⟨word_in nm ys i hi, hrw, fun h => absurd h hu⟩
      by_cases h1 : f = 49
      · subst h1
        simp only [true_or, if_true, decide_eq_true_eq] at hko
        have hl := least 2 (by omega)
        refine ⟨fun u h => ?_, fun c h => by cases h⟩
        simp only [List.mem_singleton] at h
        exact go2 _ _ 0 (by omega) (.inl rfl) (by simp) u h
      by_cases h2 : f = 52
      · subst h2
        simp at hko
        have hl := least 3 (by omega)
        refine ⟨fun u h => ?_, fun c h => by cases h⟩
        simp only [List.mem_cons, List.not_mem_nil, or_false] at h
        rcases h with h | h
        · exact go2 _ _ 0 (by omega) (.inr (.inl rfl)) (by rfl) u h
        · exact go2 _ _ 1 (by omega) (.inr (.inl rfl)) (by rfl) u h
      by_cases h3 : f = 53
      · subst h3
        simp at hko
        have hl := least 3 (by omega)
        refine ⟨fun u h => ?_, fun c h => by cases h⟩
        simp only [List.mem_cons, List.not_mem_nil, or_false] at h
        rcases h with h | h
        · exact go2 _ _ 0 (by omega) (.inr (.inr rfl)) (by rfl) u h
        · exact go2 _ _ 1 (by omega) (.inr (.inr rfl)) (by rfl) u h
      by_cases h4 : f = 54
      · subst h4; exact ⟨fun u h => (by cases h), fun c h => by cases h⟩
      by_cases h5 : f = 55
      · subst h5; exact ⟨fun u h => (by cases h), fun c h => by cases h⟩
      by_cases h6 : f = 56
      · subst h6; exact ⟨fun u h => (by cases h), fun c h => by cases h⟩
      by_cases h7 : f = 57
      · subst h7
        exact ⟨fun u h => (by cases h), fun c h => h⟩
      by_cases h8 : f = 59
      · subst h8
        simp at hko
        have hl := least 2 (by omega)
        refine ⟨fun u h => (by cases h), fun c h => ?_⟩
        simp only [List.mem_singleton] at h
        subst h
        exact word_in nm ys 0 (by omega)
      · simp [h1, h2, h3, h4, h5, h6, h7, h8]
        exact ⟨fun u h => (by cases h), fun c h => by cases h⟩
open Go.Op in
theorem odd_bit : ∀ k : Nat, k < 56 → bits BinOp.and IntKind.u16 (cmdOf k).cats 1 = 1 → (cmdOf k).cats % 2 = 1 := by decide +kernel
/-- What the last line of UsesWords looks at. -/
def sig (k n : Nat) : List Bool := [bits BinOp.and IntKind.u16 (cmdOf k).cats 3 != 0, (cmdOf k).name.data.toList == [119, 97, 116, 99, 104], (cmdOf k).name.data.toList == [115, 117, 98, 115, 99, 114, 105, 98, 101], (cmdOf k).name.data.toList == [112, 117, 98, 108, 105, 115, 104], bits BinOp.and IntKind.u16 (cmdOf k).cats 2 == 0, allR k, allW k, decide (0 < keysLen k n), decide (0 < chansLen k n)]
def SIGS : List (List Bool) := [[true, false, false, false, true, false, false, true, false], [true, false, false, false, false, false, false, true, false], [true, false, false, false, true, true, false, false, false], [true, false, false, false, false, false, true, false, false],
  [false, true, false, false, true, false, false, true, false], [false, false, true, false, true, false, false, false, true], [false, false, false, true, true, false, false, false, true], [false, false, false, false, true, false, false, false, false]]
def sigOk (k n : Nat) : Bool := !(fitsB (cmdOf k) (n : Int)) || (k == 8 && !(n % 2 == 1)) || (SIGS.contains (sig k n) && ((bits BinOp.and IntKind.u16 (cmdOf k).cats 2 == 0) || allW k || decide (0 < writesLen k n)))
theorem sig_all : ∀ k : Nat, k < 56 → ∀ n : Nat, n < 32 → sigOk k n = true := by decide +kernel
theorem sig_law (k : Nat) (hk : k < 56) (n : Nat) (hn : n < 32) (hf : fitsB (cmdOf k) (n : Int) = true) (h8 : k = 8 → n % 2 = 1) : sig k n ∈ SIGS ∧ ((bits BinOp.and IntKind.u16 (cmdOf k).cats 2 == 0) = false → allW k = false → 0 < writesLen k n) := by
  have h := sig_all k hk n hn
  unfold sigOk at h
  simp only [Bool.or_eq_true, Bool.and_eq_true, Bool.not_eq_true', List.contains_iff_mem] at h
  rcases h with (h | ⟨h1, h2⟩) | ⟨h1, h2⟩
  · rw [hf] at h; cases h
  · have h3 : k = 8 := by simpa using h1
    have := h8 h3
    simp [this] at h2
  · refine ⟨h1, fun a b => ?_⟩
    rcases h2 with (h2 | h2) | h2
    · rw [a] at h2; cases h2
    · rw [b] at h2; cases h2
    · exact of_decide_eq_true h2
end Go.Proofs.Ytflnpgfddedahaa.U
