/- What requests of some keys need: the plain laws of UsesMany. -/
import Derived.Test.YtflnpgfddedahaaV3
namespace Go.Proofs.Ytflnpgfddedahaa.U
open Go.RowKit Go.Great Go.Proofs.YtflnpgfddedahaaW.PrintWords
set_option linter.unusedVariables false
set_option linter.unusedSimpArgs false
def NAMES4 : List ByteArray := [⟨#[109, 103, 101, 116]⟩, ⟨#[101, 120, 105, 115, 116, 115]⟩, ⟨#[100, 101, 108]⟩, ⟨#[119, 97, 116, 99, 104]⟩]
def IDS4 : List Nat := [7, 34, 33, 50]
def MSET : ByteArray := ⟨#[109, 115, 101, 116]⟩
def VEE : ByteArray := ⟨#[118]⟩
theorem each_one (r w : Bool) (x : ByteArray) (ys : List ByteArray) : eachUpto 1 r w (x :: ys) ys.length = ys.map fun s => ⟨s, r, w⟩ := by
  apply List.ext_getElem
  · simp [eachUpto]
  · intro q h1 h2
    simp only [List.length_map] at h2
    simp only [eachUpto, List.getElem_map, List.getElem_range]
    rw [show (1 + 1 * q) = q + 1 by omega]
    unfold word
    simp [List.getD_eq_getElem?_getD, h2]
theorem keysOf_r (w : Bool) (ys : List ByteArray) : keysOf (·.r) (ys.map fun s => ⟨s, true, w⟩) = ys := by
  induction ys with
  | nil => rfl
  | cons y ys ih => simpa [keysOf] using ih
theorem keysOf_w (r : Bool) (ys : List ByteArray) : keysOf (·.w) (ys.map fun s => ⟨s, r, true⟩) = ys := by
  induction ys with
  | nil => rfl
  | cons y ys ih => simpa [keysOf] using ih
theorem keysOf_r0 (w : Bool) (ys : List ByteArray) : keysOf (·.r) (ys.map fun s => ⟨s, false, w⟩) = [] := by
  induction ys with
  | nil => rfl
  | cons y ys ih => simp [keysOf]
theorem keysOf_w0 (r : Bool) (ys : List ByteArray) : keysOf (·.w) (ys.map fun s => ⟨s, r, false⟩) = [] := by
  induction ys with
  | nil => rfl
  | cons y ys ih => simp [keysOf]
theorem of_kind (x : ByteArray) (ys : List ByteArray) (id : Nat) (r w : Bool) (hid : idOf x = some id) (hk : kindAt id = some (.each 1 r w)) (h8 : id ≠ 8) (hf : fitsB (cmdOf id) (ys.length + 1) = true) :
    ofS (x :: ys) = (⟨id, ys.map fun s => ⟨s, r, w⟩, false, false, []⟩, 0) := by
  have h0 : word (x :: ys) 0 = x := rfl
  unfold ofS
  rw [if_neg (by simp), h0, hid]
  simp only [List.length_cons]
  rw [if_pos ⟨hf, fun h => h8 h.1⟩]
  unfold needOf
  rw [hk]
  simp only [List.length_cons]
  rw [if_neg (by decide), show ((ys.length + 1 + 1 - 2) / 1) = ys.length by omega, each_one]
theorem of_many (k : Nat) (hk : k < 4) (ys : List ByteArray) (h : 1 ≤ ys.length) :
    ofS (word NAMES4 k :: ys) = (⟨(IDS4.getD k 0 : Nat), ys.map fun s => ⟨s, true, k == 2⟩, false, false, []⟩, 0) := by
  have fit : ∀ c : CmdD, c.arity = -2 → fitsB c (ys.length + 1) = true := fun c hc => by
    unfold fitsB
    rw [hc]
    simp
    omega
  rcases (show k = 0 ∨ k = 1 ∨ k = 2 ∨ k = 3 by omega) with rfl | rfl | rfl | rfl
  · exact of_kind _ ys 7 true false (by kernel_rfl) (by kernel_rfl) (by decide) (fit _ (by decide))
  · exact of_kind _ ys 34 true false (by kernel_rfl) (by kernel_rfl) (by decide) (fit _ (by decide))
  · exact of_kind _ ys 33 true true (by kernel_rfl) (by kernel_rfl) (by decide) (fit _ (by decide))
  · exact of_kind _ ys 50 true false (by kernel_rfl) (by kernel_rfl) (by decide) (fit _ (by decide))
theorem of_mget1 : ofS [⟨#[109, 103, 101, 116]⟩] = (zeroNeed, 1) := by kernel_rfl
/-- A text and a value for each key. -/
def pairsOf (ys : List ByteArray) : List ByteArray := MSET :: ys.flatMap fun s => [s, VEE]
theorem pairs_len (ys : List ByteArray) : (pairsOf ys).length = 1 + 2 * ys.length := by
  unfold pairsOf
  rw [List.length_cons]
  have : ∀ l : List ByteArray, (l.flatMap fun s => [s, VEE]).length = 2 * l.length := by
    intro l
    induction l with
    | nil => rfl
    | cons y l ih => simp only [List.flatMap_cons, List.length_append, ih, List.length_cons, List.length_nil]; omega
  rw [this]
  omega
theorem pairs_word (ys : List ByteArray) : ∀ q, word (ys.flatMap fun s => [s, VEE]) (2 * q) = word ys q := by
  induction ys with
  | nil => intro q; simp [word]
  | cons y ys ih =>
    intro q
    rcases q with _ | q
    · rfl
    · rw [show 2 * (q + 1) = 2 * q + 1 + 1 by omega]
      exact ih q
theorem each_pairs (ys : List ByteArray) : eachUpto 2 false true (pairsOf ys) ys.length = ys.map fun s => ⟨s, false, true⟩ := by
  apply List.ext_getElem
  · simp [eachUpto]
  · intro q h1 h2
    simp only [List.length_map] at h2
    simp only [eachUpto, List.getElem_map, List.getElem_range]
    have e : word (pairsOf ys) (1 + 2 * q) = word ys q := by
      rw [Nat.add_comm]
      exact pairs_word ys q
    rw [e, ← word_get ys q h2]
theorem of_pairs (ys : List ByteArray) (h : 1 ≤ ys.length) : ofS (pairsOf ys) = (⟨(8 : Nat), ys.map fun s => ⟨s, false, true⟩, false, false, []⟩, 0) := by
  have h0 : word (pairsOf ys) 0 = MSET := rfl
  have hid : idOf MSET = some 8 := by kernel_rfl
  have hk : kindAt 8 = some (.each 2 false true) := by kernel_rfl
  unfold ofS
  rw [if_neg (by rw [pairs_len]; omega), h0, hid]
  simp only [pairs_len]
  rw [if_pos ⟨by unfold fitsB; rw [show (cmdOf 8).arity = -3 by decide]; simp; omega, fun h => by omega⟩]
  unfold needOf
  rw [hk]
  simp only [pairs_len]
  rw [if_pos trivial, show ((1 + 2 * ys.length + 2 - 2) / 2) = ys.length by omega, each_pairs]
theorem of_odd (ys : List ByteArray) (h : 1 ≤ ys.length) : ofS ((pairsOf ys).take (2 * ys.length)) = (zeroNeed, 1) := by
  obtain ⟨m, hm⟩ : ∃ m, 2 * ys.length = m + 1 := ⟨2 * ys.length - 1, by omega⟩
  have hl : ((pairsOf ys).take (2 * ys.length)).length = 2 * ys.length := by rw [List.length_take, pairs_len]; omega
  have h0 : word ((pairsOf ys).take (2 * ys.length)) 0 = MSET := by rw [hm]; rfl
  have hid : idOf MSET = some 8 := by kernel_rfl
  unfold ofS
  rw [if_neg (by rw [hl]; omega), h0, hid]
  simp only [hl]
  rw [if_neg (fun h => h.2 ⟨by trivial, by omega⟩)]
end Go.Proofs.Ytflnpgfddedahaa.U
