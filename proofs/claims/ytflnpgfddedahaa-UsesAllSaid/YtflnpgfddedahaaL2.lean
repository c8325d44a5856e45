/- num.Lower: what it comes to, for every text. -/
import Derived.Test.YtflnpgfddedahaaL1
namespace Go.Proofs.Ytflnpgfddedahaa.U
open Go.RowKit Go Go.Great Go.Proofs.YtflnpgfddedahaaW.PrintWords
set_option linter.unusedVariables false
set_option linter.unusedSimpArgs false

/-- A small letter for a great one. -/
def low (c : UInt8) : UInt8 := if 65 ≤ c ∧ c ≤ 90 then c + 32 else c
def lower (l : List UInt8) : List UInt8 := l.map low
theorem lower_snoc (l : List UInt8) (k : Nat) (h : k < l.length) : lower (l.take (k + 1)) = lower (l.take k) ++ [low l[k]] := by
  unfold lower
  rw [List.take_succ_eq_append_getElem h, List.map_append]
  rfl
theorem or_nat : ∀ n : Nat, n < 91 → 65 ≤ n → bits BinOp.or IntKind.u8 (n : Int) 32 = ((low (UInt8.ofNat n)).toNat : Int) := by decide
theorem or_low (x : UInt8) (h1 : 65 ≤ x.toNat) (h2 : x.toNat ≤ 90) : bits BinOp.or IntKind.u8 (x.toNat : Int) 32 = ((low x).toNat : Int) := by
  have h := or_nat x.toNat (by omega) h1
  rwa [UInt8.ofNat_toNat] at h
theorem low_same (x : UInt8) (h : ¬ (65 ≤ x.toNat ∧ x.toNat ≤ 90)) : low x = x := by
  unfold low
  rw [if_neg (fun h2 => h ⟨by simpa [UInt8.le_iff_toNat_le] using h2.1, by simpa [UInt8.le_iff_toNat_le] using h2.2⟩)]
theorem cell_same {w w' : World} {b : Nat} (h : w'.heap[b]? = w.heap[b]?) (j : Nat) : w'.cell? ⟨b, j, none⟩ = w.cell? ⟨b, j, none⟩ := by
  unfold World.cell?
  rw [h]
theorem below_bytes {B : Nat} {a w : World} (h : Below B a w) (hB : B ≤ w.heap.size) (e : TypeId) (s : ByteArray) : Below B a (Lib.bytesWorld w e s) :=
  Lib.below_freeze (h.drew.alloc (by exact hB) _) (p := ⟨w.heap.size, _, none⟩) hB 1

set_option maxHeartbeats 2000000 in
set_option maxRecDepth 100000 in
theorem lower_calls (s : ByteArray) (w : World) (hs : s.size ≤ 140737488351232) :
    Calls Try.prog 15 #[.string s] w fun e w' => e = .returned (.string ⟨(lower s.data.toList).toArray⟩) ∧ Below w.heap.size w w' := by
  have hcv := Lib.run_convert_string_bytes (P := Try.prog) (w.alloc (.cells #[.pointer none, .slice none 0 0] 66)) 9 29 5 s Try.underlying9 Try.underlying29 Try.underlying5
  go_enter Try.func15, Try.ntmps15
  go_wp2_with fail
  have Z0 := Aside0.mk (show (w.alloc (.cells #[.pointer none, .slice none 0 0] 66)).heap[w.heap.size]? = some (.cells #[.pointer none, .slice none 0 0] 66 (0, 0)) from blk_new w _)
  have HB0 := Aside0.mk (below_bytes (below_alloc (Below.refl w.heap.size w) (.cells #[.pointer none, .slice none 0 0] 66)) (by simp) 5 s)
  have HS0 := Lib.bytesWorld_size (w.alloc (.cells #[.pointer none, .slice none 0 0] 66)) 5 s
  have HC0 := Aside0.mk (fun j => Lib.bytesWorld_cell (w.alloc (.cells #[.pointer none, .slice none 0 0] 66)) 5 s j)
  have HO0 := Aside0.mk (Lib.bytesWorld_at_old (w.alloc (.cells #[.pointer none, .slice none 0 0] 66)) 5 s w.heap.size (by simp))
  clear hcv
  generalize grownCap (w.alloc (.cells #[.pointer none, .slice none 0 0] 66)) s.size 0 5 = cap at *
  generalize Lib.bytesWorld (w.alloc (.cells #[.pointer none, .slice none 0 0] 66)) 5 s = wb at *
  have HZ := Aside0.mk (HO0.out.trans Z0.out)
  have HC : Aside0 (∀ j (hj : j < s.data.toList.length), wb.cell? ⟨w.heap.size + 1, j, none⟩ = some (.int .u8 (s.data.toList[j]).toNat)) := ⟨fun j hj => by
    have h := HC0.out j (by simpa using hj)
    rw [List.getD_eq_getElem?_getD, List.getElem?_eq_getElem hj] at h
    simpa using h⟩
  have hsz : w.heap.size + 2 ≤ wb.heap.size := by simp at HS0; omega
  clear HS0 HC0 HO0 Z0
  have hlen : s.data.toList.length = s.size := by simp
  have HLEN := Aside0.mk hlen
  clear hlen
  go_loopw [9] (fun i wr => ∃ k : Nat, k ≤ s.size ∧ i = .int .i64 k ∧ w.heap.size + 2 ≤ wr.heap.size ∧ Aside0 (Bu (w.heap.size + 2) w.heap.size (lower (s.data.toList.take k)) wr) ∧ Aside0 (∀ j (hj : j < s.data.toList.length), wr.cell? ⟨w.heap.size + 1, j, none⟩ = some (.int .u8 (s.data.toList[j]).toNat)) ∧ Aside0 (Below w.heap.size w wr)) (fun i _ => s.size - (intOf i).toNat)
  case atStart => exact ⟨0, Nat.zero_le _, rfl, hsz, ⟨⟨_, _, .inl rfl, HZ.out, World.ownsRow_nil _ _ _ _, fun _ => rfl⟩⟩, HC, HB0⟩
  case round =>
    obtain ⟨k, hk, rfl, hsw, HU, HC, HB⟩ := hrel
    by_cases hlt : k < s.size
    · have hkl : k < s.data.toList.length := by rw [HLEN.out]; exact hlt
      have c0 := HC.out k hkl
      have HSN := Aside0.mk (lower_snoc s.data.toList k hkl)
      generalize s.data.toList[k] = x at c0 HSN
      have hx : (x.toNat : Int) ≤ 255 := by have := x.toNat_lt; omega
      have HL : Aside0 ((lower (s.data.toList.take k)).length + 1 ≤ 140737488355328) := ⟨by simp [lower]; omega⟩
      by_cases hA : 65 ≤ x.toNat ∧ x.toNat ≤ 90
      · obtain ⟨h1, h2⟩ := hA
        have i1 : (65 : Int) ≤ (x.toNat : Int) := by omega
        have i2 : (x.toNat : Int) ≤ 90 := by omega
        have hor := or_low x h1 h2
        go_wp2_with (go_at_call 38; go_loud (refine (write_calls (w.heap.size + 2) w.heap.size _ (low x) _ HU.out HL.out (by omega) hsw).mono ?_); rintro e w1 ⟨rfl, HU1, HK1, HB1⟩)
        go_roundw
        case rel => exact ⟨k + 1, by omega, by go_num, Nat.le_trans hsw HB1.out.size, ⟨by rw [HSN.out]; exact HU1.out⟩, ⟨fun j hj => (cell_same (HK1.out (w.heap.size + 1) (by omega) (by omega)) j).trans (HC.out j hj)⟩, ⟨HB.out.trans HB1.out⟩⟩
        case measure => simp [intOf]; omega
      · have HLO := Aside0.mk (low_same x hA)
        rcases (show (x.toNat : Int) < 65 ∨ ((65 : Int) ≤ (x.toNat : Int) ∧ (90 : Int) < (x.toNat : Int)) by omega) with i1 | ⟨i1, i2⟩
        all_goals
          go_wp2_with (go_at_call 38; go_loud (refine (write_calls (w.heap.size + 2) w.heap.size _ x _ HU.out HL.out (by omega) hsw).mono ?_); rintro e w1 ⟨rfl, HU1, HK1, HB1⟩)
          go_roundw
          case rel => exact ⟨k + 1, by omega, by go_num, Nat.le_trans hsw HB1.out.size, ⟨by rw [HSN.out, HLO.out]; exact HU1.out⟩, ⟨fun j hj => (cell_same (HK1.out (w.heap.size + 1) (by omega) (by omega)) j).trans (HC.out j hj)⟩, ⟨HB.out.trans HB1.out⟩⟩
          case measure => simp [intOf]; omega
    · have hk' : s.data.toList.take k = s.data.toList := List.take_of_length_le (by rw [HLEN.out]; omega)
      have HU' := HU.out
      rw [hk'] at HU'
      have HU2 := Aside0.mk HU'
      have HL : Aside0 ((lower s.data.toList).length ≤ 140737488355328) := ⟨by simp [lower]; omega⟩
      clear hk' HU' HU
      go_wp2_with (go_at_call 39; go_loud (refine (string_calls (w.heap.size + 2) w.heap.size _ _ HU2.out (by omega) HL.out).mono ?_); rintro e w1 ⟨rfl, hb1⟩; have HB1 := Aside0.mk hb1; clear hb1)
      go_ret
      exact ⟨rfl, HB.out.trans HB1.out⟩
end Go.Proofs.Ytflnpgfddedahaa.U
