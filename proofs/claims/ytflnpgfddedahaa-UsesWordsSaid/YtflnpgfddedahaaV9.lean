/- What UsesLetters leans on: plain laws. -/
import Derived.Test.YtflnpgfddedahaaV8
namespace Go.Proofs.Ytflnpgfddedahaa.U
open Go.RowKit Go.Great Go.Proofs.YtflnpgfddedahaaW.PrintWords
set_option linter.unusedVariables false
set_option linter.unusedSimpArgs false
theorem word_succ (x : ByteArray) (ys : List ByteArray) (i : Nat) : word (x :: ys) (i + 1) = word ys i := rfl
theorem idOf_low (s : ByteArray) : idOf (lowS s) = idOf s := by
  unfold idOf
  rw [findI_low]
theorem each_head (s : Nat) (r w : Bool) (x y : ByteArray) (ys : List ByteArray) (m : Nat) : eachUpto s r w (x :: ys) m = eachUpto s r w (y :: ys) m := by
  unfold eachUpto
  refine List.map_congr_left (fun q _ => ?_)
  rw [Nat.add_comm 1 (s * q)]
  rfl
theorem needOf_head (k : Nat) (x y : ByteArray) (ys : List ByteArray) : needOf k (x :: ys) = needOf k (y :: ys) := by
  unfold needOf
  simp only [List.length_cons, each_head _ _ _ x y ys]
  rfl
/-- The letters of the name do not matter. -/
theorem of_low (x : ByteArray) (ys : List ByteArray) : ofS (lowS x :: ys) = ofS (x :: ys) := by
  have h0 : ∀ z : ByteArray, word (z :: ys) 0 = z := fun _ => rfl
  unfold ofS
  rw [h0, h0, idOf_low]
  simp only [List.length_cons]
  cases idOf x with
  | none => rfl
  | some k => simp only [needOf_head k (lowS x) x ys]
/-- Of the commands of one key. -/
theorem of_key (x : ByteArray) (id : Nat) (hid : idOf x = some id) (h8 : id ≠ 8) (hkd : (∃ r w, kindAt id = some (.one r w)) ∨ kindAt id = some (.fn 49)) :
    ∃ (r : Nat → Bool) (w : Bool), ∀ ys : List ByteArray, ofS (x :: ys) = if fitsB (cmdOf id) (ys.length + 1 : Nat) = true then (⟨id, [⟨word ys 0, r ys.length, w⟩], false, false, []⟩, 0) else (zeroNeed, 1) := by
  rcases hkd with ⟨r, w, hk⟩ | hk
  · refine ⟨fun _ => r, w, fun ys => ?_⟩
    have h0 : word (x :: ys) 0 = x := rfl
    unfold ofS
    rw [if_neg (by simp), h0, hid]
    simp only [List.length_cons]
    by_cases hf : fitsB (cmdOf id) (ys.length + 1 : Nat) = true
    · rw [if_pos ⟨hf, fun h => h8 h.1⟩, if_pos hf]
      unfold needOf
      rw [hk]
      rfl
    · rw [if_neg (fun h => hf h.1), if_neg hf]
  · refine ⟨fun n => decide ((3 : Int) < (n + 1 : Nat)), true, fun ys => ?_⟩
    have h0 : word (x :: ys) 0 = x := rfl
    unfold ofS
    rw [if_neg (by simp), h0, hid]
    simp only [List.length_cons]
    by_cases hf : fitsB (cmdOf id) (ys.length + 1 : Nat) = true
    · rw [if_pos ⟨hf, fun h => h8 h.1⟩, if_pos hf]
      unfold needOf
      rw [hk]
      rfl
    · rw [if_neg (fun h => hf h.1), if_neg hf]
/-- The six commands of which another last word is tried. -/
def isSix (l : List UInt8) : Bool := l == [103, 101, 116] || l == [115, 101, 116] || l == [108, 114, 97, 110, 103, 101] || l == [104, 115, 101, 116] || l == [122, 97, 100, 100] || l == [115, 97, 100, 100]
theorem idOf_lit (x : ByteArray) (l : List UInt8) (h : ((lowS x).toList == l) = true) : idOf x = idOf ⟨l.toArray⟩ := by
  rw [← idOf_low x]
  have e : (lowS x).toList = l := by simpa using h
  rw [ByteArray.toList_eq] at e
  rw [show lowS x = ⟨l.toArray⟩ from by rw [← e]]
theorem six_id (x : ByteArray) (h : isSix (lowS x).toList = true) : ∃ id : Nat, idOf x = some id ∧ id ≠ 8 ∧ ((∃ r w, kindAt id = some (.one r w)) ∨ kindAt id = some (.fn 49)) := by
  unfold isSix at h
  simp only [Bool.or_eq_true] at h
  rcases h with ((((h | h) | h) | h) | h) | h
  · exact ⟨0, (idOf_lit x _ h).trans (by kernel_rfl), by decide, .inl ⟨true, false, by kernel_rfl⟩⟩
  · exact ⟨1, (idOf_lit x _ h).trans (by kernel_rfl), by decide, .inr (by kernel_rfl)⟩
  · exact ⟨14, (idOf_lit x _ h).trans (by kernel_rfl), by decide, .inl ⟨true, false, by kernel_rfl⟩⟩
  · exact ⟨15, (idOf_lit x _ h).trans (by kernel_rfl), by decide, .inl ⟨true, true, by kernel_rfl⟩⟩
  · exact ⟨27, (idOf_lit x _ h).trans (by kernel_rfl), by decide, .inl ⟨true, true, by kernel_rfl⟩⟩
  · exact ⟨21, (idOf_lit x _ h).trans (by kernel_rfl), by decide, .inl ⟨true, true, by kernel_rfl⟩⟩
/-- Another last word. -/
theorem of_last (x : ByteArray) (h : isSix (lowS x).toList = true) (ys : List ByteArray) (u v : ByteArray) :
    ∃ (c : Int) (ks ls : List UseD) (err : Int), ofS (x :: (ys ++ [u])) = (⟨c, ks, false, false, []⟩, err) ∧ ofS (x :: (ys ++ [v])) = (⟨c, ls, false, false, []⟩, err) ∧ ks.length = ls.length ∧ (1 ≤ ys.length → ks = ls) := by
  obtain ⟨id, h1, h2, h3⟩ := six_id x h
  obtain ⟨r, w, hk⟩ := of_key x id h1 h2 h3
  rw [hk, hk]
  simp only [List.length_append, List.length_cons, List.length_nil]
  by_cases hf : fitsB (cmdOf id) ((ys.length + (0 + 1) + 1 : Nat) : Int) = true
  · rw [if_pos hf, if_pos hf]
    refine ⟨_, _, _, _, rfl, rfl, rfl, fun h => ?_⟩
    have e : ∀ z : ByteArray, word (ys ++ [z]) 0 = word ys 0 := fun z => by
      cases ys with
      | nil => simp at h
      | cons y ys => rfl
    rw [e, e]
  · rw [if_neg hf, if_neg hf]
    exact ⟨_, _, _, _, rfl, rfl, rfl, fun _ => rfl⟩
end Go.Proofs.Ytflnpgfddedahaa.U
