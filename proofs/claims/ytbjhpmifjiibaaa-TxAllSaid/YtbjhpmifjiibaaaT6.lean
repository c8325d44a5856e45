/- The head of the statements of layer 21: the document's example holds. -/
import Derived.Test.YtbjhpmifjiibaaaT5
namespace Go.Proofs.Ytbjhpmifjiibaaa.T
open Go.RowKit Go.Maps Go.Proofs.YtbjhpmifjiibaaaW.PrintWords
set_option linter.unusedVariables false
set_option linter.unusedSimpArgs false

/-- A block that holds keys and numbers, one behind the other. -/
theorem seen_block {W : World} {b : Nat} {xs : List SeenD} {cells : Array Value} (h : W.heap[b]? = some (.cells cells 36 (0, 0))) (hm : xs.length ≤ 9223372036854775807)
    (hc : ∀ (j : Nat) (p : SeenD), xs[j]? = some p → cells[j * 2]? = some (.string p.key) ∧ cells[j * 2 + 1]? = some (.int .i64 p.n)) : Kd.F kSeen W (fun k => k = b) (some ⟨b, 0, none⟩) xs.length xs := by
  intro W' hW
  have h' : W'.heap[b]? = some (.cells cells 36 (0, 0)) := (hW b rfl (blk_lt h)).trans h
  refine ⟨rfl, hm, fun _ => ⟨⟨b, 0, none⟩, rfl, fun j p hj => ⟨[.string p.key, .int .i64 p.n], rfl, ⟨[.string p.key], [.int .i64 p.n], rfl, rfl, rfl⟩, fun i u hu => ?_⟩⟩⟩
  rw [add_plain, blk_cell h']
  match i, hu with
  | 0, hu => exact (hc j p hj).1.trans hu
  | 1, hu => exact (hc j p hj).2.trans hu

abbrev keyA : ByteArray := ⟨#[97]⟩
theorem shown_one : (([⟨keyA, 1⟩] : List SeenD).any fun x => number [⟨keyA, 1⟩, ⟨keyA, 2⟩] x.key != x.n) = false := by
  simp [number, ByteArray.toList_eq]
theorem shown_two : (([⟨keyA, 1⟩] : List SeenD).any fun x => number [] x.key != x.n) = true := by
  simp [number]

set_option maxHeartbeats 1000000 in
set_option maxRecDepth 100000 in
theorem shown_calls (w : World) : Calls Try.prog 7 #[] w fun e w' => e = .returned (.bool true) ∧ Below w.heap.size w w' := by
  go_enter Try.func7, Try.ntmps7
  go_wp2_with (first | (go_at_call 8; go_must (refine (begin_calls false false none 0 0 none 0 0 _).mono ?_); rintro e w1 ⟨rfl, hb1⟩; have X1 := Aside0.mk (blk_below (blk_new w (.cells #[.string keyA, .int .i64 1] 36)) hb1); have HB1 := Aside0.mk (step2 (below_alloc (Below.refl _ _) _) hb1); clear hb1) )
  have SA : ∀ (W : World), W.heap[w.heap.size]? = some (.cells #[.string keyA, .int .i64 1] 36 (0, 0)) → Kd.F kSeen W (fun k => k = w.heap.size) (some ⟨w.heap.size, 0, none⟩) 1 [⟨keyA, 1⟩] := fun W h => seen_block h (by decide) (fun j p hj => by
    match j, hj with
    | 0, hj => injection hj with hj; subst hj; exact ⟨rfl, rfl⟩)
  have SB := seen_block (xs := [⟨keyA, 1⟩, ⟨keyA, 2⟩]) (blk_new (w1.alloc (.cells #[.bool true, .bool false, .slice none 0 0, .slice none 0 0] 26)) (.cells #[.string keyA, .int .i64 1, .string keyA, .int .i64 2] 36)) (by decide) (fun j p hj => by
    match j, hj with
    | 0, hj => injection hj with hj; subst hj; exact ⟨rfl, rfl⟩
    | 1, hj => injection hj with hj; subst hj; exact ⟨rfl, rfl⟩)
  have z1 : keyA.size ≤ maxLen := by unfold maxLen; decide
  have SA1 := SA _ (blk_alloc (blk_alloc X1.out (.cells #[.bool true, .bool false, .slice none 0 0, .slice none 0 0] 26)) (.cells #[.string keyA, .int .i64 1, .string keyA, .int .i64 2] 36))
  have hb := below_alloc (below_alloc HB1.out (.cells #[.bool true, .bool false, .slice none 0 0, .slice none 0 0] 26)) (.cells #[.string keyA, .int .i64 1, .string keyA, .int .i64 2] 36)
  have HB2 := Aside0.mk hb
  have HSA := Aside0.mk SA
  clear hb SA
  refine (fresh_calls false false none 0 0 _ 1 1 _ 2 2 _ _ [⟨keyA, 1⟩] [⟨keyA, 1⟩, ⟨keyA, 2⟩] _ SA1 (by simpa using SB) (by simp [z1]) (by simp [z1]; decide)).mono ?_
  rintro e w2 ⟨rfl, hb2⟩
  rw [shown_one]
  have X2 := Aside0.mk (blk_below (blk_alloc (blk_alloc X1.out (.cells #[.bool true, .bool false, .slice none 0 0, .slice none 0 0] 26)) (.cells #[.string keyA, .int .i64 1, .string keyA, .int .i64 2] 36)) hb2)
  have HB3 := Aside0.mk (step2 HB2.out hb2)
  clear hb2 SA1 SB z1
  go_wp2_with fail
  refine (fresh_calls false false none 0 0 _ 1 1 none 0 0 _ (fun _ => False) [⟨keyA, 1⟩] [] _ (HSA.out _ X2.out) (Kd.F_nil _ _ _) (by simp; unfold maxLen; decide) (by simp)).mono ?_
  rintro e w3 ⟨rfl, hb3⟩
  rw [shown_two]
  have HB4 := Aside0.mk (step2 HB3.out hb3)
  clear hb3
  go_wp2_with fail
  go_ret
  exact ⟨rfl, HB4.out⟩

end Go.Proofs.Ytbjhpmifjiibaaa.T
