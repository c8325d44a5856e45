/- uses.Of: one contract. -/
import Derived.Test.YtflnpgfddedahaaU8
namespace Go.Proofs.Ytflnpgfddedahaa.U
open Go.RowKit Go.Great Go.Proofs.YtflnpgfddedahaaW.PrintWords
set_option linter.unusedVariables false
set_option linter.unusedSimpArgs false

structure NeedD where
  cmd : Int
  keys : List UseD
  aR : Bool
  aW : Bool
  chans : List ByteArray
def zeroNeed : NeedD := ⟨0, [], false, false, []⟩
def needOf (k : Nat) (xs : List ByteArray) : NeedD := match kindAt k with
  | some (.one r w) => ⟨k, [⟨word xs 1, r, w⟩], false, false, []⟩
  | some (.each s r w) => if s = 2 then ⟨k, eachUpto 2 r w xs ((xs.length + 2 - 2) / 2), false, false, []⟩ else ⟨k, eachUpto 1 r w xs ((xs.length + 1 - 2) / 1), false, false, []⟩
  | some (.fn 49) => ⟨k, [⟨word xs 1, decide ((3 : Int) < xs.length), true⟩], false, false, []⟩
  | some (.fn 52) => ⟨k, [⟨word xs 1, true, true⟩, ⟨word xs 2, false, true⟩], false, false, []⟩
  | some (.fn 53) => ⟨k, [⟨word xs 1, true, true⟩, ⟨word xs 2, true, true⟩], false, false, []⟩
  | some (.fn 54) => ⟨k, [], true, false, []⟩
  | some (.fn 55) => ⟨k, [], true, false, []⟩
  | some (.fn 56) => ⟨k, [], false, true, []⟩
  | some (.fn 57) => ⟨k, [], false, false, xs.drop 1⟩
  | some (.fn 59) => ⟨k, [], false, false, [word xs 1]⟩
  | _ => ⟨k, [], false, false, []⟩
/-- The id of a name, if there is one. -/
def idOf (s : ByteArray) : Option Nat := if 0 ≤ findI s then some (findI s).toNat else none
def ofS (xs : List ByteArray) : NeedD × Int :=
  if xs.length = 0 then (zeroNeed, 2)
  else match idOf (word xs 0) with
    | none => (zeroNeed, 2)
    | some k => if fitsB (cmdOf k) xs.length = true ∧ ¬ (k = 8 ∧ xs.length % 2 = 0) then (needOf k xs, 0) else (zeroNeed, 1)
theorem idOf_some {s : ByteArray} {k : Nat} (h : findI s = k) : idOf s = some k := by
  unfold idOf
  rw [if_pos (by omega), h]
  rfl
theorem idOf_none {s : ByteArray} (h : findI s = -1) : idOf s = none := by
  unfold idOf
  rw [if_neg (by omega)]
def NeedIs (W : World) (lo : Nat) (v : Value) (d : NeedD) : Prop := NeedV W lo v d.cmd d.keys d.aR d.aW d.chans
theorem names_mset : ∀ k : Nat, k < 56 → ((cmdOf k).name.data.toList == [109, 115, 101, 116]) = (k == 8) := by decide +kernel
/-- What is known of a command's kind: how many words there are at least. -/
def kindOk (k : Nat) : Bool := match kindAt k with
  | none => true
  | some (.one _ _) => decide (2 ≤ (cmdOf k).arity ∨ (cmdOf k).arity ≤ -2)
  | some (.each s r w) => (s == 1 && !(k == 8)) || (s == 2 && k == 8)
  | some (.fn f) => if f = 49 ∨ f = 57 ∨ f = 59 then decide (2 ≤ (cmdOf k).arity ∨ (cmdOf k).arity ≤ -2) else if f = 52 ∨ f = 53 then decide (3 ≤ (cmdOf k).arity ∨ (cmdOf k).arity ≤ -3) else f == 54 || f == 55 || f == 56
theorem kinds_ok : ∀ k : Nat, k < 56 → kindOk k = true ∧ (k = 8 → kindAt k = some (.each 2 false true)) := by decide +kernel
theorem fits_least {c : CmdD} {n : Nat} (h : fitsB c n = true) (m : Nat) (hm : (m : Int) ≤ c.arity ∨ c.arity ≤ -(m : Int)) : m ≤ n := by
  unfold fitsB at h
  simp at h
  omega

theorem of_calls (A : Option Addr) (n cp : Nat) (xs : List ByteArray) (ok : Nat → Prop) (W : World) (hF : Kd.F Kd.string W ok A n xs) (hcp : n ≤ cp) (hn6 : n ≤ 1000000) (hs : (word xs 0).size ≤ 140737488351232) :
    Calls Try.prog 22 #[.slice A n cp] W fun e W' => ∃ v, e = .returned (.tuple #[v, .int .i64 (ofS xs).2]) ∧ NeedIs W' W.heap.size v (ofS xs).1 ∧ Below W.heap.size W W' := by
  have hl := Kd.F_len hF
  by_cases hn0 : n = 0
  · subst hn0
    have e : ofS xs = (zeroNeed, 2) := by unfold ofS; rw [if_pos hl]
    rw [e]
    exact of_empty A cp W
  · have hn1 : 1 ≤ n := by omega
    rcases findI_cases (word xs 0) with hf | ⟨k, hk, hf⟩
    · have e : ofS xs = (zeroNeed, 2) := by unfold ofS; rw [if_neg (by omega), idOf_none hf]
      rw [e]
      exact of_unknown A n cp xs ok W hF hs hf hn1
    · have hof : ofS xs = if fitsB (cmdOf k) xs.length = true ∧ ¬ (k = 8 ∧ xs.length % 2 = 0) then (needOf k xs, 0) else (zeroNeed, 1) := by unfold ofS; rw [if_neg (by omega), idOf_some hf]
      have hnm : ((lowS (word xs 0)).toList == [109, 115, 101, 116]) = (k == 8) := by
        rw [ByteArray.toList_eq, name_of _ k hk hf]
        exact names_mset k hk
      rw [hl] at hof
      by_cases hgo : fitsB (cmdOf k) n = true ∧ ¬ (k = 8 ∧ n % 2 = 0)
      · rw [if_pos hgo] at hof
        rw [hof]
        obtain ⟨hfit, hodd⟩ := hgo
        obtain ⟨hko, hk8⟩ := kinds_ok k hk
        have hms : k ≠ 8 → ((lowS (word xs 0)).toList == [109, 115, 101, 116]) = false := fun h => by rw [hnm]; simpa using h
        have go : ∀ d : NeedD, needOf k xs = d → (Calls Try.prog 22 #[.slice A n cp] W fun e W' => ∃ v, e = .returned (.tuple #[v, .int .i64 0]) ∧ NeedV W' W.heap.size v d.cmd d.keys d.aR d.aW d.chans ∧ Below W.heap.size W W') → Calls Try.prog 22 #[.slice A n cp] W fun e W' => ∃ v, e = .returned (.tuple #[v, .int .i64 (needOf k xs, (0 : Int)).2]) ∧ NeedIs W' W.heap.size v (needOf k xs, (0 : Int)).1 ∧ Below W.heap.size W W' := fun d hd h => by
          show Calls Try.prog 22 #[.slice A n cp] W fun e W' => ∃ v, e = .returned (.tuple #[v, .int .i64 0]) ∧ NeedIs W' W.heap.size v (needOf k xs) ∧ Below W.heap.size W W'
          rw [hd]
          exact h
        have hne : ∀ x, kindAt k = x → x ≠ some (.each 2 false true) → k ≠ 8 := fun x hx hx2 e => hx2 (by rw [← hx]; exact hk8 e)
        cases hkd : kindAt k with
        | none => exact go ⟨k, [], false, false, []⟩ (by unfold needOf; rw [hkd]) (of_none k hk hkd A n cp xs ok W hF hs hf hfit hn1 (hms (hne _ hkd (by simp))))
        | some kd =>
          unfold kindOk at hko
          rw [hkd] at hko
          cases kd with
          | one r w =>
            have h2 : 2 ≤ n := fits_least hfit 2 (by simpa using hko)
            exact go ⟨k, [⟨word xs 1, r, w⟩], false, false, []⟩ (by unfold needOf; rw [hkd]) (of_one r w k hk hkd A n cp xs ok W hF hs hf hfit h2 (hms (hne _ hkd (by simp))))
          | each s r w =>
            by_cases h8 : k = 8
            · have hs2 : s = 2 := by simpa [h8] using hko
              subst hs2
              refine go ⟨k, eachUpto 2 r w xs ((n + 2 - 2) / 2), false, false, []⟩ (by unfold needOf; rw [hkd, hl]; rfl) (of_mset r w k hk hkd A n cp xs ok W hF hs hf hfit hn1 hn6 (by rw [hnm]; simpa using h8) (by omega))
            · have hs1 : s = 1 := by simpa [h8] using hko
              subst hs1
              refine go ⟨k, eachUpto 1 r w xs ((n + 1 - 2) / 1), false, false, []⟩ (by unfold needOf; rw [hkd, hl]; rfl) (of_each r w k hk hkd A n cp xs ok W hF hs hf hfit hn1 hn6 (hms h8))
          | fn f =>
            have h8 : k ≠ 8 := hne _ hkd (by simp)
            simp only at hko
            by_cases f1 : f = 49 ∨ f = 57 ∨ f = 59
            · rw [if_pos f1] at hko
              have h2 : 2 ≤ n := fits_least hfit 2 (by simpa using hko)
              rcases f1 with rfl | rfl | rfl
              · exact go ⟨k, [⟨word xs 1, decide ((3 : Int) < n), true⟩], false, false, []⟩ (by unfold needOf; rw [hkd, hl]; rfl) (of_fn49 k hk hkd A n cp xs ok W hF hs hf hfit h2 (hms h8))
              · exact go ⟨k, [], false, false, xs.drop 1⟩ (by unfold needOf; rw [hkd]; rfl) (of_fn57 k hk hkd A n cp xs ok W hF hs hf hfit h2 hcp hn6 (hms h8))
              · exact go ⟨k, [], false, false, [word xs 1]⟩ (by unfold needOf; rw [hkd]; rfl) (of_fn59 k hk hkd A n cp xs ok W hF hs hf hfit h2 (hms h8))
            · rw [if_neg f1] at hko
              by_cases f2 : f = 52 ∨ f = 53
              · rw [if_pos f2] at hko
                have h3 : 3 ≤ n := fits_least hfit 3 (by simpa using hko)
                rcases f2 with rfl | rfl
                · exact go ⟨k, [⟨word xs 1, true, true⟩, ⟨word xs 2, false, true⟩], false, false, []⟩ (by unfold needOf; rw [hkd]; rfl) (of_fn52 k hk hkd A n cp xs ok W hF hs hf hfit h3 (hms h8))
                · exact go ⟨k, [⟨word xs 1, true, true⟩, ⟨word xs 2, true, true⟩], false, false, []⟩ (by unfold needOf; rw [hkd]; rfl) (of_fn53 k hk hkd A n cp xs ok W hF hs hf hfit h3 (hms h8))
              · rw [if_neg f2] at hko
                simp at hko
                rcases hko with (rfl | rfl) | rfl
                · exact go ⟨k, [], true, false, []⟩ (by unfold needOf; rw [hkd]; rfl) (of_fn54 k hk hkd A n cp xs ok W hF hs hf hfit hn1 (hms h8))
                · exact go ⟨k, [], true, false, []⟩ (by unfold needOf; rw [hkd]; rfl) (of_fn55 k hk hkd A n cp xs ok W hF hs hf hfit hn1 (hms h8))
                · exact go ⟨k, [], false, true, []⟩ (by unfold needOf; rw [hkd]; rfl) (of_fn56 k hk hkd A n cp xs ok W hF hs hf hfit hn1 (hms h8))
      · rw [if_neg hgo] at hof
        rw [hof]
        refine of_unfit k hk A n cp xs ok W hF hs hf hn1 ?_
        cases hfb : fitsB (cmdOf k) n with
        | false => exact .inl rfl
        | true =>
          have h := hgo
          rw [hfb] at h
          have h2 : k = 8 ∧ n % 2 = 0 := by
            by_cases hh : k = 8 ∧ n % 2 = 0
            · exact hh
            · exact absurd ⟨rfl, hh⟩ h
          exact .inr ⟨rfl, by rw [hnm]; simpa using h2.1, h2.2⟩
end Go.Proofs.Ytflnpgfddedahaa.U
