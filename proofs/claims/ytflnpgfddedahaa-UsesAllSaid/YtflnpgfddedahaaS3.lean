/- The reference's keys of a request. -/
import Derived.Test.YtflnpgfddedahaaS1
import Derived.Test.YtflnpgfddedahaaU9
import Derived.Test.YtflnpgfddedahaaWTab
import Derived.Test.YtflnpgfddedahaaWLast
import Derived.Test.YtflnpgfddedahaaWMore
namespace Go.Proofs.Ytflnpgfddedahaa.U
open Go.RowKit Go.Great Go.Proofs.YtflnpgfddedahaaW.PrintWords Go.Proofs.YtflnpgfddedahaaW.PrintLast Go.Proofs.YtflnpgfddedahaaW.PrintMore
set_option linter.unusedVariables false
set_option linter.unusedSimpArgs false
def KLITS : List (List UInt8) := [[103, 101, 116], [115, 116, 114, 108, 101, 110], [108, 108, 101, 110], [108, 114, 97, 110, 103, 101], [104, 103, 101, 116], [104, 108, 101, 110], [104, 103, 101, 116, 97, 108, 108], [115, 105, 115, 109, 101, 109, 98, 101, 114], [115, 109, 101, 109, 98, 101, 114, 115], [115, 99, 97, 114, 100], [122, 115, 99, 111, 114, 101], [122, 114, 97, 110, 103, 101], [122, 99, 97, 114, 100], [116, 121, 112, 101], [116, 116, 108], [97, 112, 112, 101, 110, 100], [105, 110, 99, 114, 98, 121], [105, 110, 99, 114], [103, 101, 116, 100, 101, 108], [108, 112, 117, 115, 104], [114, 112, 117, 115, 104], [108, 112, 111, 112], [114, 112, 111, 112], [104, 115, 101, 116], [104, 100, 101, 108], [104, 105, 110, 99, 114, 98, 121], [115, 97, 100, 100], [115, 114, 101, 109], [122, 97, 100, 100], [122, 114, 101, 109], [122, 105, 110, 99, 114, 98, 121], [101, 120, 112, 105, 114, 101], [112, 101, 114, 115, 105, 115, 116], [115, 101, 116], [114, 101, 110, 97, 109, 101], [115, 109, 111, 118, 101], [109, 103, 101, 116], [101, 120, 105, 115, 116, 115], [119, 97, 116, 99, 104], [100, 101, 108], [109, 115, 101, 116]]
/-- Which of them a command's name is. -/
def KPOS : List Nat := [0, 33, 15, 1, 16, 17, 18, 36, 40, 19, 20, 21, 22, 2, 3, 23, 4, 24, 5, 6, 25, 26, 27, 7, 8, 9, 35, 28, 29, 10, 11, 12, 30, 39, 37, 13, 31, 14, 32, 34, 99, 99, 99, 99, 99, 99, 99, 99, 99, 99, 38, 99, 99, 99, 99, 99]
theorem key_pos : ∀ k : Nat, k < 56 → ∀ i : Nat, i < 41 → ((cmdOf k).name.data.toList == KLITS.getD i []) = (KPOS.getD k 99 == i) := by decide +kernel
def key41T : Bool × List (List Nat × List Nat) := (true, [([], []), ([0], [0]), ([1], [1]), ([2], [2]), ([], []), ([4], [4]), ([5], [5]), ([6], [6]), ([3, 7], [3, 7]), ([8, 0, 1, 2, 3, 4, 5, 6, 7, 8], [8])])
def key41B : List Nat := [0, 1, 3, 7, 0, 16, 48, 112, 255, 511]
theorem key41_tab : rtab .any (opsOf Try.f46 41) = key41T := by kernel_rfl
theorem key41_bits : waitsOk key41T.2 key41B = true := by kernel_rfl
def key43T : Bool × List (List Nat × List Nat) := (true, [([], []), ([0], [0]), ([1], [1]), ([2], [2]), ([], []), ([4], [4]), ([5], [5]), ([6], [6]), ([3, 7], [3, 7]), ([8, 0, 1, 2, 3, 4, 5, 6, 7, 8], [8])])
def key43B : List Nat := [0, 1, 3, 7, 0, 16, 48, 112, 255, 511]
theorem key43_tab : rtab .any (opsOf Try.f46 43) = key43T := by kernel_rfl
theorem key43_bits : waitsOk key43T.2 key43B = true := by kernel_rfl
theorem word_cell {w : World} {ok : Nat → Prop} {ad : Addr} {n : Nat} {xs : List ByteArray} (h : Kd.F Kd.string w ok (some ad) n xs) (i : Nat) (hi : i < n) : w.cell? (ad.add i) = some (.string (word xs i)) := by
  obtain ⟨ad', hl, e, c⟩ := text_at h i hi
  injection e with e
  subst e
  rw [word_get] at c
  exact c
section
variable (nm : ByteArray) (A : Option Addr) (n cp : Nat) (xs : List ByteArray) (ok : Nat → Prop) (W : World)
set_option maxHeartbeats 8000000 in
set_option maxRecDepth 100000 in
theorem key_read (p : Nat) (hlo : 0 ≤ p) (hhi : p < 15) (hpos : ∀ i, i < 41 → (nm.toList == KLITS.getD i []) = (p == i)) (hF : Kd.F Kd.string W ok A n xs) (hn : 2 ≤ n) :
    Calls Try.prog 46 #[.string nm, .slice A n cp] W fun e W' => RowSaid kUse ([⟨word xs 1, true, false⟩]) W e W' := by
  have o0 : (nm.toList == [103, 101, 116]) = (p == 0) := hpos 0 (by decide)
  have o1 : (nm.toList == [115, 116, 114, 108, 101, 110]) = (p == 1) := hpos 1 (by decide)
  have o2 : (nm.toList == [108, 108, 101, 110]) = (p == 2) := hpos 2 (by decide)
  have o3 : (nm.toList == [108, 114, 97, 110, 103, 101]) = (p == 3) := hpos 3 (by decide)
  have o4 : (nm.toList == [104, 103, 101, 116]) = (p == 4) := hpos 4 (by decide)
  have o5 : (nm.toList == [104, 108, 101, 110]) = (p == 5) := hpos 5 (by decide)
  have o6 : (nm.toList == [104, 103, 101, 116, 97, 108, 108]) = (p == 6) := hpos 6 (by decide)
  have o7 : (nm.toList == [115, 105, 115, 109, 101, 109, 98, 101, 114]) = (p == 7) := hpos 7 (by decide)
  have o8 : (nm.toList == [115, 109, 101, 109, 98, 101, 114, 115]) = (p == 8) := hpos 8 (by decide)
  have o9 : (nm.toList == [115, 99, 97, 114, 100]) = (p == 9) := hpos 9 (by decide)
  have o10 : (nm.toList == [122, 115, 99, 111, 114, 101]) = (p == 10) := hpos 10 (by decide)
  have o11 : (nm.toList == [122, 114, 97, 110, 103, 101]) = (p == 11) := hpos 11 (by decide)
  have o12 : (nm.toList == [122, 99, 97, 114, 100]) = (p == 12) := hpos 12 (by decide)
  have o13 : (nm.toList == [116, 121, 112, 101]) = (p == 13) := hpos 13 (by decide)
  have o14 : (nm.toList == [116, 116, 108]) = (p == 14) := hpos 14 (by decide)
  clear hpos
  obtain ⟨ad, rfl⟩ := some_at hF (by omega)
  have c1 := word_cell hF 1 (by omega)
  rw [show ad.add 1 = ⟨ad.block, ad.off + 1, none⟩ from by unfold Addr.add; simp] at c1
  have HF := Aside0.mk hF
  clear hF
  generalize word xs 1 = wd at *
  have i1 : (1 : Int) < (n : Int) := by omega
  have CK : Aside0 (∀ w : World, Below W.heap.size W w → w.cell? ⟨ad.block, ad.off + 1, none⟩ = some (.string wd)) := ⟨fun w hb => pw_cell_below hb c1⟩
  clear c1
  rcases (show p = 0 ∨ p = 1 ∨ p = 2 ∨ p = 3 ∨ p = 4 ∨ p = 5 ∨ p = 6 ∨ p = 7 ∨ p = 8 ∨ p = 9 ∨ p = 10 ∨ p = 11 ∨ p = 12 ∨ p = 13 ∨ p = 14 by omega) with rfl | rfl | rfl | rfl | rfl | rfl | rfl | rfl | rfl | rfl | rfl | rfl | rfl | rfl | rfl
  all_goals
    simp only [Nat.reduceBEq] at o0 o1 o2 o3 o4 o5 o6 o7 o8 o9 o10 o11 o12 o13 o14
    go_enter Try.func46, Try.ntmps46
    go_wp2_with (first
      | ((with_reducible refine gate_dst (N := 8) rfl ?_); go_must (refine Kd.N_lit kUse (w0 := W) W.heap.size 56 rfl (N' := 8) rfl (xs := ([] : List UseD)) (inner := []) (ok := fun b => W.heap.size ≤ b) (okp := fun _ => False) (by go_simp; try rfl) (Reps.none _ _) (fun _ hk => hk.elim) (Nat.le_refl _) (Below.refl _ _) (Nat.le_refl _) (by decide) ?_); go_must (intro v1 w1 hN hb hg1 hv; obtain ⟨A1, c1, rfl⟩ := Kd.N_slice hN; have HN1 := Aside0.mk hN; have HB := Aside0.mk hb; clear hN hb hg1 hv)); have c1 := CK.out _ HB.out
      | ((with_reducible refine gate_dst (N := 30) rfl ?_); go_must (refine Kd.N_lit kUse (w0 := W) W.heap.size 56 rfl (N' := 30) rfl (xs := [(⟨wd, true, false⟩ : UseD)]) (inner := [.string wd, .bool true, .bool false]) (ok := fun b => W.heap.size ≤ b) (okp := fun _ => False) (by go_simp; try rfl) (Reps.front (kUse_FK _ _ _) rfl (Reps.none _ _) rfl) (fun _ hk => hk.elim) HB.out.size HB.out HB.out.size (by simp) ?_); go_must (intro v2 w2 hN hb hg1 hv; obtain ⟨A2, c2, rfl⟩ := Kd.N_slice hN; have HN2 := Aside0.mk hN; replace HB := Aside0.mk hb; clear hN hb hg1 hv)))
    (refine bodyPost_ret (v := .slice A2 1 c2) (by simp [results, Try.results46, go_sem]) rfl ?_; unfold RowSaid; exact ⟨A2, c2, rfl, (Kd.N_reads' HN2.out).2.1, ⟨Kd.N_F HN2.out⟩, ⟨HB.out⟩⟩)
end
end Go.Proofs.Ytflnpgfddedahaa.U
