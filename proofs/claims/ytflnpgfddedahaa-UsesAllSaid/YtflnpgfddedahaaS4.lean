/- The reference's keys of a request: further kinds. -/
import Derived.Test.YtflnpgfddedahaaS3
namespace Go.Proofs.Ytflnpgfddedahaa.U
open Go.RowKit Go.Great Go.Proofs.YtflnpgfddedahaaW.PrintWords Go.Proofs.YtflnpgfddedahaaW.PrintLast Go.Proofs.YtflnpgfddedahaaW.PrintMore
set_option linter.unusedVariables false
set_option linter.unusedSimpArgs false
section
variable (nm : ByteArray) (A : Option Addr) (n cp : Nat) (xs : List ByteArray) (ok : Nat → Prop) (W : World)
set_option maxHeartbeats 8000000 in
set_option maxRecDepth 100000 in
theorem key_both (p : Nat) (hlo : 15 ≤ p) (hhi : p < 33) (hpos : ∀ i, i < 41 → (nm.toList == KLITS.getD i []) = (p == i)) (hF : Kd.F Kd.string W ok A n xs) (hn : 2 ≤ n) :
    Calls Try.prog 46 #[.string nm, .slice A n cp] W fun e W' => RowSaid kUse ([⟨word xs 1, true, true⟩]) W e W' := by
  have o0 : (nm.toList == [103, 101, 116]) = (p == 0) := hpos 0 (by decide)
  have o1 : (nm.toList == [115, 116, 114, 108, 101, 110]) = (p == 1) := hpos 1 (by decide)
  have o2 : (nm.toList == [108, 108, 101, 110]) = (p == 2) := hpos 2 (by decide)
  have o3 : (nm.toList == [108, 114, 97, 110, 103, 101]) = (p == 3) := hpos 3 (by decide)
  have o4 : (nm.toList == [104, 103, 101, 116]) = (p == 4) := hpos 4 (by decide)
  have o5 : (nm.toList == [104, 108, 101, 110]) = (p == 5) := hpos 5 (by decide)
  have o6 : (nm.toList == [104, 103, 101, 116, 97, 108, 108]) = (p == 6) := hpos 6 (by decide)
  have o7 : (nm.toList == [115, 105, 115, 109, 101, 109, 98, 101, 114]) = (p == 7) := hpos 7 (by decide)
  have o8 : (nm.toList == [115, 109, 101, 109, 98, 101, 114, 115]) = (p == 8) := hpos 8 (by decide)
  have o9 : (nm.toList == [115, 99, 97, 114, 100]) = (p == 9) := hpos 9 (by decide)
  have o10 : (nm.toList == [122, 115, 99, 111, 114, 101]) = (p == 10) := hpos 10 (by decide)
  have o11 : (nm.toList == [122, 114, 97, 110, 103, 101]) = (p == 11) := hpos 11 (by decide)
  have o12 : (nm.toList == [122, 99, 97, 114, 100]) = (p == 12) := hpos 12 (by decide)
  have o13 : (nm.toList == [116, 121, 112, 101]) = (p == 13) := hpos 13 (by decide)
  have o14 : (nm.toList == [116, 116, 108]) = (p == 14) := hpos 14 (by decide)
  have o15 : (nm.toList == [97, 112, 112, 101, 110, 100]) = (p == 15) := hpos 15 (by decide)
  have o16 : (nm.toList == [105, 110, 99, 114, 98, 121]) = (p == 16) := hpos 16 (by decide)
  have o17 : (nm.toList == [105, 110, 99, 114]) = (p == 17) := hpos 17 (by decide)
  have o18 : (nm.toList == [103, 101, 116, 100, 101, 108]) = (p == 18) := hpos 18 (by decide)
  have o19 : (nm.toList == [108, 112, 117, 115, 104]) = (p == 19) := hpos 19 (by decide)
  have o20 : (nm.toList == [114, 112, 117, 115, 104]) = (p == 20) := hpos 20 (by decide)
  have o21 : (nm.toList == [108, 112, 111, 112]) = (p == 21) := hpos 21 (by decide)
  have o22 : (nm.toList == [114, 112, 111, 112]) = (p == 22) := hpos 22 (by decide)
  have o23 : (nm.toList == [104, 115, 101, 116]) = (p == 23) := hpos 23 (by decide)
  have o24 : (nm.toList == [104, 100, 101, 108]) = (p == 24) := hpos 24 (by decide)
  have o25 : (nm.toList == [104, 105, 110, 99, 114, 98, 121]) = (p == 25) := hpos 25 (by decide)
  have o26 : (nm.toList == [115, 97, 100, 100]) = (p == 26) := hpos 26 (by decide)
  have o27 : (nm.toList == [115, 114, 101, 109]) = (p == 27) := hpos 27 (by decide)
  have o28 : (nm.toList == [122, 97, 100, 100]) = (p == 28) := hpos 28 (by decide)
  have o29 : (nm.toList == [122, 114, 101, 109]) = (p == 29) := hpos 29 (by decide)
  have o30 : (nm.toList == [122, 105, 110, 99, 114, 98, 121]) = (p == 30) := hpos 30 (by decide)
  have o31 : (nm.toList == [101, 120, 112, 105, 114, 101]) = (p == 31) := hpos 31 (by decide)
  have o32 : (nm.toList == [112, 101, 114, 115, 105, 115, 116]) = (p == 32) := hpos 32 (by decide)
  clear hpos
  obtain ⟨ad, rfl⟩ := some_at hF (by omega)
  have c1 := word_cell hF 1 (by omega)
  rw [show ad.add 1 = ⟨ad.block, ad.off + 1, none⟩ from by unfold Addr.add; simp] at c1
  have HF := Aside0.mk hF
  clear hF
  generalize word xs 1 = wd at *
  have i1 : (1 : Int) < (n : Int) := by omega
  have CK : Aside0 (∀ w : World, Below W.heap.size W w → w.cell? ⟨ad.block, ad.off + 1, none⟩ = some (.string wd)) := ⟨fun w hb => pw_cell_below hb c1⟩
  clear c1
  rcases (show p = 15 ∨ p = 16 ∨ p = 17 ∨ p = 18 ∨ p = 19 ∨ p = 20 ∨ p = 21 ∨ p = 22 ∨ p = 23 ∨ p = 24 ∨ p = 25 ∨ p = 26 ∨ p = 27 ∨ p = 28 ∨ p = 29 ∨ p = 30 ∨ p = 31 ∨ p = 32 by omega) with rfl | rfl | rfl | rfl | rfl | rfl | rfl | rfl | rfl | rfl | rfl | rfl | rfl | rfl | rfl | rfl | rfl | rfl
  all_goals
    simp only [Nat.reduceBEq] at o0 o1 o2 o3 o4 o5 o6 o7 o8 o9 o10 o11 o12 o13 o14 o15 o16 o17 o18 o19 o20 o21 o22 o23 o24 o25 o26 o27 o28 o29 o30 o31 o32
    go_enter Try.func46, Try.ntmps46
    go_wp2_with (first
      | ((with_reducible refine gate_dst (N := 8) rfl ?_); go_must (refine Kd.N_lit kUse (w0 := W) W.heap.size 56 rfl (N' := 8) rfl (xs := ([] : List UseD)) (inner := []) (ok := fun b => W.heap.size ≤ b) (okp := fun _ => False) (by go_simp; try rfl) (Reps.none _ _) (fun _ hk => hk.elim) (Nat.le_refl _) (Below.refl _ _) (Nat.le_refl _) (by decide) ?_); go_must (intro v1 w1 hN hb hg1 hv; obtain ⟨A1, c1, rfl⟩ := Kd.N_slice hN; have HN1 := Aside0.mk hN; have HB := Aside0.mk hb; clear hN hb hg1 hv)); have c1 := CK.out _ HB.out
      | ((with_reducible refine gate_dst (N := 54) rfl ?_); go_must (refine Kd.N_lit kUse (w0 := W) W.heap.size 56 rfl (N' := 54) rfl (xs := [(⟨wd, true, true⟩ : UseD)]) (inner := [.string wd, .bool true, .bool true]) (ok := fun b => W.heap.size ≤ b) (okp := fun _ => False) (by go_simp; try rfl) (Reps.front (kUse_FK _ _ _) rfl (Reps.none _ _) rfl) (fun _ hk => hk.elim) HB.out.size HB.out HB.out.size (by simp) ?_); go_must (intro v2 w2 hN hb hg1 hv; obtain ⟨A2, c2, rfl⟩ := Kd.N_slice hN; have HN2 := Aside0.mk hN; replace HB := Aside0.mk hb; clear hN hb hg1 hv)))
    (refine bodyPost_ret (v := .slice A2 1 c2) (by simp [results, Try.results46, go_sem]) rfl ?_; unfold RowSaid; exact ⟨A2, c2, rfl, (Kd.N_reads' HN2.out).2.1, ⟨Kd.N_F HN2.out⟩, ⟨HB.out⟩⟩)
end
section
variable (nm : ByteArray) (A : Option Addr) (n cp : Nat) (xs : List ByteArray) (ok : Nat → Prop) (W : World)
set_option maxHeartbeats 8000000 in
set_option maxRecDepth 100000 in
theorem key_set3 (p : Nat) (hlo : 33 ≤ p) (hhi : p < 34) (hpos : ∀ i, i < 41 → (nm.toList == KLITS.getD i []) = (p == i)) (hF : Kd.F Kd.string W ok A n xs) (hn : 2 ≤ n) (h3 : (3 : Int) < (n : Int)) :
    Calls Try.prog 46 #[.string nm, .slice A n cp] W fun e W' => RowSaid kUse ([⟨word xs 1, true, true⟩]) W e W' := by
  have o0 : (nm.toList == [103, 101, 116]) = (p == 0) := hpos 0 (by decide)
  have o1 : (nm.toList == [115, 116, 114, 108, 101, 110]) = (p == 1) := hpos 1 (by decide)
  have o2 : (nm.toList == [108, 108, 101, 110]) = (p == 2) := hpos 2 (by decide)
  have o3 : (nm.toList == [108, 114, 97, 110, 103, 101]) = (p == 3) := hpos 3 (by decide)
  have o4 : (nm.toList == [104, 103, 101, 116]) = (p == 4) := hpos 4 (by decide)
  have o5 : (nm.toList == [104, 108, 101, 110]) = (p == 5) := hpos 5 (by decide)
  have o6 : (nm.toList == [104, 103, 101, 116, 97, 108, 108]) = (p == 6) := hpos 6 (by decide)
  have o7 : (nm.toList == [115, 105, 115, 109, 101, 109, 98, 101, 114]) = (p == 7) := hpos 7 (by decide)
  have o8 : (nm.toList == [115, 109, 101, 109, 98, 101, 114, 115]) = (p == 8) := hpos 8 (by decide)
  have o9 : (nm.toList == [115, 99, 97, 114, 100]) = (p == 9) := hpos 9 (by decide)
  have o10 : (nm.toList == [122, 115, 99, 111, 114, 101]) = (p == 10) := hpos 10 (by decide)
  have o11 : (nm.toList == [122, 114, 97, 110, 103, 101]) = (p == 11) := hpos 11 (by decide)
  have o12 : (nm.toList == [122, 99, 97, 114, 100]) = (p == 12) := hpos 12 (by decide)
  have o13 : (nm.toList == [116, 121, 112, 101]) = (p == 13) := hpos 13 (by decide)
  have o14 : (nm.toList == [116, 116, 108]) = (p == 14) := hpos 14 (by decide)
  have o15 : (nm.toList == [97, 112, 112, 101, 110, 100]) = (p == 15) := hpos 15 (by decide)
  have o16 : (nm.toList == [105, 110, 99, 114, 98, 121]) = (p == 16) := hpos 16 (by decide)
  have o17 : (nm.toList == [105, 110, 99, 114]) = (p == 17) := hpos 17 (by decide)
  have o18 : (nm.toList == [103, 101, 116, 100, 101, 108]) = (p == 18) := hpos 18 (by decide)
  have o19 : (nm.toList == [108, 112, 117, 115, 104]) = (p == 19) := hpos 19 (by decide)
  have o20 : (nm.toList == [114, 112, 117, 115, 104]) = (p == 20) := hpos 20 (by decide)
  have o21 : (nm.toList == [108, 112, 111, 112]) = (p == 21) := hpos 21 (by decide)
  have o22 : (nm.toList == [114, 112, 111, 112]) = (p == 22) := hpos 22 (by decide)
  have o23 : (nm.toList == [104, 115, 101, 116]) = (p == 23) := hpos 23 (by decide)
  have o24 : (nm.toList == [104, 100, 101, 108]) = (p == 24) := hpos 24 (by decide)
  have o25 : (nm.toList == [104, 105, 110, 99, 114, 98, 121]) = (p == 25) := hpos 25 (by decide)
  have o26 : (nm.toList == [115, 97, 100, 100]) = (p == 26) := hpos 26 (by decide)
  have o27 : (nm.toList == [115, 114, 101, 109]) = (p == 27) := hpos 27 (by decide)
  have o28 : (nm.toList == [122, 97, 100, 100]) = (p == 28) := hpos 28 (by decide)
  have o29 : (nm.toList == [122, 114, 101, 109]) = (p == 29) := hpos 29 (by decide)
  have o30 : (nm.toList == [122, 105, 110, 99, 114, 98, 121]) = (p == 30) := hpos 30 (by decide)
  have o31 : (nm.toList == [101, 120, 112, 105, 114, 101]) = (p == 31) := hpos 31 (by decide)
  have o32 : (nm.toList == [112, 101, 114, 115, 105, 115, 116]) = (p == 32) := hpos 32 (by decide)
  have o33 : (nm.toList == [115, 101, 116]) = (p == 33) := hpos 33 (by decide)
  clear hpos
  obtain ⟨ad, rfl⟩ := some_at hF (by omega)
  have c1 := word_cell hF 1 (by omega)
  rw [show ad.add 1 = ⟨ad.block, ad.off + 1, none⟩ from by unfold Addr.add; simp] at c1
  have HF := Aside0.mk hF
  clear hF
  generalize word xs 1 = wd at *
  have i1 : (1 : Int) < (n : Int) := by omega
  have CK : Aside0 (∀ w : World, Below W.heap.size W w → w.cell? ⟨ad.block, ad.off + 1, none⟩ = some (.string wd)) := ⟨fun w hb => pw_cell_below hb c1⟩
  clear c1
  obtain rfl : p = 33 := by omega
  simp only [Nat.reduceBEq] at o0 o1 o2 o3 o4 o5 o6 o7 o8 o9 o10 o11 o12 o13 o14 o15 o16 o17 o18 o19 o20 o21 o22 o23 o24 o25 o26 o27 o28 o29 o30 o31 o32 o33
  go_enter Try.func46, Try.ntmps46
  go_wp2_with (first
    | ((with_reducible refine gate_dst (N := 8) rfl ?_); go_must (refine Kd.N_lit kUse (w0 := W) W.heap.size 56 rfl (N' := 8) rfl (xs := ([] : List UseD)) (inner := []) (ok := fun b => W.heap.size ≤ b) (okp := fun _ => False) (by go_simp; try rfl) (Reps.none _ _) (fun _ hk => hk.elim) (Nat.le_refl _) (Below.refl _ _) (Nat.le_refl _) (by decide) ?_); go_must (intro v1 w1 hN hb hg1 hv; obtain ⟨A1, c1, rfl⟩ := Kd.N_slice hN; have HN1 := Aside0.mk hN; have HB := Aside0.mk hb; clear hN hb hg1 hv)); have c1 := CK.out _ HB.out
    | ((with_reducible refine gate_dst (N := 64) rfl ?_); go_must (refine Kd.N_lit kUse (w0 := W) W.heap.size 56 rfl (N' := 64) rfl (xs := [(⟨wd, true, true⟩ : UseD)]) (inner := [.string wd, .bool true, .bool true]) (ok := fun b => W.heap.size ≤ b) (okp := fun _ => False) (by go_simp; try rfl) (Reps.front (kUse_FK _ _ _) rfl (Reps.none _ _) rfl) (fun _ hk => hk.elim) HB.out.size HB.out HB.out.size (by simp) ?_); go_must (intro v2 w2 hN hb hg1 hv; obtain ⟨A2, c2, rfl⟩ := Kd.N_slice hN; have HN2 := Aside0.mk hN; replace HB := Aside0.mk hb; clear hN hb hg1 hv)))
  (refine bodyPost_ret (v := .slice A2 1 c2) (by simp [results, Try.results46, go_sem]) rfl ?_; unfold RowSaid; exact ⟨A2, c2, rfl, (Kd.N_reads' HN2.out).2.1, ⟨Kd.N_F HN2.out⟩, ⟨HB.out⟩⟩)
set_option maxHeartbeats 8000000 in
set_option maxRecDepth 100000 in
theorem key_set2 (p : Nat) (hlo : 33 ≤ p) (hhi : p < 34) (hpos : ∀ i, i < 41 → (nm.toList == KLITS.getD i []) = (p == i)) (hF : Kd.F Kd.string W ok A n xs) (hn : 2 ≤ n) (h3 : ¬ (3 : Int) < (n : Int)) :
    Calls Try.prog 46 #[.string nm, .slice A n cp] W fun e W' => RowSaid kUse ([⟨word xs 1, false, true⟩]) W e W' := by
  have o0 : (nm.toList == [103, 101, 116]) = (p == 0) := hpos 0 (by decide)
  have o1 : (nm.toList == [115, 116, 114, 108, 101, 110]) = (p == 1) := hpos 1 (by decide)
  have o2 : (nm.toList == [108, 108, 101, 110]) = (p == 2) := hpos 2 (by decide)
  have o3 : (nm.toList == [108, 114, 97, 110, 103, 101]) = (p == 3) := hpos 3 (by decide)
  have o4 : (nm.toList == [104, 103, 101, 116]) = (p == 4) := hpos 4 (by decide)
  have o5 : (nm.toList == [104, 108, 101, 110]) = (p == 5) := hpos 5 (by decide)
  have o6 : (nm.toList == [104, 103, 101, 116, 97, 108, 108]) = (p == 6) := hpos 6 (by decide)
  have o7 : (nm.toList == [115, 105, 115, 109, 101, 109, 98, 101, 114]) = (p == 7) := hpos 7 (by decide)
  have o8 : (nm.toList == [115, 109, 101, 109, 98, 101, 114, 115]) = (p == 8) := hpos 8 (by decide)
  have o9 : (nm.toList == [115, 99, 97, 114, 100]) = (p == 9) := hpos 9 (by decide)
  have o10 : (nm.toList == [122, 115, 99, 111, 114, 101]) = (p == 10) := hpos 10 (by decide)
  have o11 : (nm.toList == [122, 114, 97, 110, 103, 101]) = (p == 11) := hpos 11 (by decide)
  have o12 : (nm.toList == [122, 99, 97, 114, 100]) = (p == 12) := hpos 12 (by decide)
  have o13 : (nm.toList == [116, 121, 112, 101]) = (p == 13) := hpos 13 (by decide)
  have o14 : (nm.toList == [116, 116, 108]) = (p == 14) := hpos 14 (by decide)
  have o15 : (nm.toList == [97, 112, 112, 101, 110, 100]) = (p == 15) := hpos 15 (by decide)
  have o16 : (nm.toList == [105, 110, 99, 114, 98, 121]) = (p == 16) := hpos 16 (by decide)
  have o17 : (nm.toList == [105, 110, 99, 114]) = (p == 17) := hpos 17 (by decide)
  have o18 : (nm.toList == [103, 101, 116, 100, 101, 108]) = (p == 18) := hpos 18 (by decide)
  have o19 : (nm.toList == [108, 112, 117, 115, 104]) = (p == 19) := hpos 19 (by decide)
  have o20 : (nm.toList == [114, 112, 117, 115, 104]) = (p == 20) := hpos 20 (by decide)
  have o21 : (nm.toList == [108, 112, 111, 112]) = (p == 21) := hpos 21 (by decide)
  have o22 : (nm.toList == [114, 112, 111, 112]) = (p == 22) := hpos 22 (by decide)
  have o23 : (nm.toList == [104, 115, 101, 116]) = (p == 23) := hpos 23 (by decide)
  have o24 : (nm.toList == [104, 100, 101, 108]) = (p == 24) := hpos 24 (by decide)
  have o25 : (nm.toList == [104, 105, 110, 99, 114, 98, 121]) = (p == 25) := hpos 25 (by decide)
  have o26 : (nm.toList == [115, 97, 100, 100]) = (p == 26) := hpos 26 (by decide)
  have o27 : (nm.toList == [115, 114, 101, 109]) = (p == 27) := hpos 27 (by decide)
  have o28 : (nm.toList == [122, 97, 100, 100]) = (p == 28) := hpos 28 (by decide)
  have o29 : (nm.toList == [122, 114, 101, 109]) = (p == 29) := hpos 29 (by decide)
  have o30 : (nm.toList == [122, 105, 110, 99, 114, 98, 121]) = (p == 30) := hpos 30 (by decide)
  have o31 : (nm.toList == [101, 120, 112, 105, 114, 101]) = (p == 31) := hpos 31 (by decide)
  have o32 : (nm.toList == [112, 101, 114, 115, 105, 115, 116]) = (p == 32) := hpos 32 (by decide)
  have o33 : (nm.toList == [115, 101, 116]) = (p == 33) := hpos 33 (by decide)
  clear hpos
  obtain ⟨ad, rfl⟩ := some_at hF (by omega)
  have c1 := word_cell hF 1 (by omega)
  rw [show ad.add 1 = ⟨ad.block, ad.off + 1, none⟩ from by unfold Addr.add; simp] at c1
  have HF := Aside0.mk hF
  clear hF
  generalize word xs 1 = wd at *
  have i1 : (1 : Int) < (n : Int) := by omega
  have CK : Aside0 (∀ w : World, Below W.heap.size W w → w.cell? ⟨ad.block, ad.off + 1, none⟩ = some (.string wd)) := ⟨fun w hb => pw_cell_below hb c1⟩
  clear c1
  obtain rfl : p = 33 := by omega
  simp only [Nat.reduceBEq] at o0 o1 o2 o3 o4 o5 o6 o7 o8 o9 o10 o11 o12 o13 o14 o15 o16 o17 o18 o19 o20 o21 o22 o23 o24 o25 o26 o27 o28 o29 o30 o31 o32 o33
  go_enter Try.func46, Try.ntmps46
  go_wp2_with (first
    | ((with_reducible refine gate_dst (N := 8) rfl ?_); go_must (refine Kd.N_lit kUse (w0 := W) W.heap.size 56 rfl (N' := 8) rfl (xs := ([] : List UseD)) (inner := []) (ok := fun b => W.heap.size ≤ b) (okp := fun _ => False) (by go_simp; try rfl) (Reps.none _ _) (fun _ hk => hk.elim) (Nat.le_refl _) (Below.refl _ _) (Nat.le_refl _) (by decide) ?_); go_must (intro v1 w1 hN hb hg1 hv; obtain ⟨A1, c1, rfl⟩ := Kd.N_slice hN; have HN1 := Aside0.mk hN; have HB := Aside0.mk hb; clear hN hb hg1 hv)); have c1 := CK.out _ HB.out
    | ((with_reducible refine gate_dst (N := 64) rfl ?_); go_must (refine Kd.N_lit kUse (w0 := W) W.heap.size 56 rfl (N' := 64) rfl (xs := [(⟨wd, false, true⟩ : UseD)]) (inner := [.string wd, .bool false, .bool true]) (ok := fun b => W.heap.size ≤ b) (okp := fun _ => False) (by go_simp; try rfl) (Reps.front (kUse_FK _ _ _) rfl (Reps.none _ _) rfl) (fun _ hk => hk.elim) HB.out.size HB.out HB.out.size (by simp) ?_); go_must (intro v2 w2 hN hb hg1 hv; obtain ⟨A2, c2, rfl⟩ := Kd.N_slice hN; have HN2 := Aside0.mk hN; replace HB := Aside0.mk hb; clear hN hb hg1 hv)))
  (refine bodyPost_ret (v := .slice A2 1 c2) (by simp [results, Try.results46, go_sem]) rfl ?_; unfold RowSaid; exact ⟨A2, c2, rfl, (Kd.N_reads' HN2.out).2.1, ⟨Kd.N_F HN2.out⟩, ⟨HB.out⟩⟩)
set_option maxHeartbeats 8000000 in
set_option maxRecDepth 100000 in
theorem key_rename (p : Nat) (hlo : 34 ≤ p) (hhi : p < 35) (hpos : ∀ i, i < 41 → (nm.toList == KLITS.getD i []) = (p == i)) (hF : Kd.F Kd.string W ok A n xs) (hn : 3 ≤ n) :
    Calls Try.prog 46 #[.string nm, .slice A n cp] W fun e W' => RowSaid kUse ([⟨word xs 1, true, true⟩, ⟨word xs 2, false, true⟩]) W e W' := by
  have o0 : (nm.toList == [103, 101, 116]) = (p == 0) := hpos 0 (by decide)
  have o1 : (nm.toList == [115, 116, 114, 108, 101, 110]) = (p == 1) := hpos 1 (by decide)
  have o2 : (nm.toList == [108, 108, 101, 110]) = (p == 2) := hpos 2 (by decide)
  have o3 : (nm.toList == [108, 114, 97, 110, 103, 101]) = (p == 3) := hpos 3 (by decide)
  have o4 : (nm.toList == [104, 103, 101, 116]) = (p == 4) := hpos 4 (by decide)
  have o5 : (nm.toList == [104, 108, 101, 110]) = (p == 5) := hpos 5 (by decide)
  have o6 : (nm.toList == [104, 103, 101, 116, 97, 108, 108]) = (p == 6) := hpos 6 (by decide)
  have o7 : (nm.toList == [115, 105, 115, 109, 101, 109, 98, 101, 114]) = (p == 7) := hpos 7 (by decide)
  have o8 : (nm.toList == [115, 109, 101, 109, 98, 101, 114, 115]) = (p == 8) := hpos 8 (by decide)
  have o9 : (nm.toList == [115, 99, 97, 114, 100]) = (p == 9) := hpos 9 (by decide)
  have o10 : (nm.toList == [122, 115, 99, 111, 114, 101]) = (p == 10) := hpos 10 (by decide)
  have o11 : (nm.toList == [122, 114, 97, 110, 103, 101]) = (p == 11) := hpos 11 (by decide)
  have o12 : (nm.toList == [122, 99, 97, 114, 100]) = (p == 12) := hpos 12 (by decide)
  have o13 : (nm.toList == [116, 121, 112, 101]) = (p == 13) := hpos 13 (by decide)
  have o14 : (nm.toList == [116, 116, 108]) = (p == 14) := hpos 14 (by decide)
  have o15 : (nm.toList == [97, 112, 112, 101, 110, 100]) = (p == 15) := hpos 15 (by decide)
  have o16 : (nm.toList == [105, 110, 99, 114, 98, 121]) = (p == 16) := hpos 16 (by decide)
  have o17 : (nm.toList == [105, 110, 99, 114]) = (p == 17) := hpos 17 (by decide)
  have o18 : (nm.toList == [103, 101, 116, 100, 101, 108]) = (p == 18) := hpos 18 (by decide)
  have o19 : (nm.toList == [108, 112, 117, 115, 104]) = (p == 19) := hpos 19 (by decide)
  have o20 : (nm.toList == [114, 112, 117, 115, 104]) = (p == 20) := hpos 20 (by decide)
  have o21 : (nm.toList == [108, 112, 111, 112]) = (p == 21) := hpos 21 (by decide)
  have o22 : (nm.toList == [114, 112, 111, 112]) = (p == 22) := hpos 22 (by decide)
  have o23 : (nm.toList == [104, 115, 101, 116]) = (p == 23) := hpos 23 (by decide)
  have o24 : (nm.toList == [104, 100, 101, 108]) = (p == 24) := hpos 24 (by decide)
  have o25 : (nm.toList == [104, 105, 110, 99, 114, 98, 121]) = (p == 25) := hpos 25 (by decide)
  have o26 : (nm.toList == [115, 97, 100, 100]) = (p == 26) := hpos 26 (by decide)
  have o27 : (nm.toList == [115, 114, 101, 109]) = (p == 27) := hpos 27 (by decide)
  have o28 : (nm.toList == [122, 97, 100, 100]) = (p == 28) := hpos 28 (by decide)
  have o29 : (nm.toList == [122, 114, 101, 109]) = (p == 29) := hpos 29 (by decide)
  have o30 : (nm.toList == [122, 105, 110, 99, 114, 98, 121]) = (p == 30) := hpos 30 (by decide)
  have o31 : (nm.toList == [101, 120, 112, 105, 114, 101]) = (p == 31) := hpos 31 (by decide)
  have o32 : (nm.toList == [112, 101, 114, 115, 105, 115, 116]) = (p == 32) := hpos 32 (by decide)
  have o33 : (nm.toList == [115, 101, 116]) = (p == 33) := hpos 33 (by decide)
  have o34 : (nm.toList == [114, 101, 110, 97, 109, 101]) = (p == 34) := hpos 34 (by decide)
  clear hpos
  obtain ⟨ad, rfl⟩ := some_at hF (by omega)
  have c1 := word_cell hF 1 (by omega)
  have c2 := word_cell hF 2 (by omega)
  rw [show ad.add 1 = ⟨ad.block, ad.off + 1, none⟩ from by unfold Addr.add; simp] at c1
  rw [show ad.add 2 = ⟨ad.block, ad.off + 2, none⟩ from by unfold Addr.add; simp] at c2
  have HF := Aside0.mk hF
  clear hF
  generalize word xs 1 = wd at *
  generalize word xs 2 = wz at *
  have i1 : (1 : Int) < (n : Int) := by omega
  have i2 : (2 : Int) < (n : Int) := by omega
  have CK : Aside0 (∀ w : World, Below W.heap.size W w → w.cell? ⟨ad.block, ad.off + 1, none⟩ = some (.string wd) ∧ w.cell? ⟨ad.block, ad.off + 2, none⟩ = some (.string wz)) := ⟨fun w hb => ⟨pw_cell_below hb c1, pw_cell_below hb c2⟩⟩
  clear c1 c2
  obtain rfl : p = 34 := by omega
  simp only [Nat.reduceBEq] at o0 o1 o2 o3 o4 o5 o6 o7 o8 o9 o10 o11 o12 o13 o14 o15 o16 o17 o18 o19 o20 o21 o22 o23 o24 o25 o26 o27 o28 o29 o30 o31 o32 o33 o34
  go_enter Try.func46, Try.ntmps46
  go_wp2_with ((with_reducible refine gate_dst (N := 8) rfl ?_); go_must (refine Kd.N_lit kUse (w0 := W) W.heap.size 56 rfl (N' := 8) rfl (xs := ([] : List UseD)) (inner := []) (ok := fun b => W.heap.size ≤ b) (okp := fun _ => False) (by go_simp; try rfl) (Reps.none _ _) (fun _ hk => hk.elim) (Nat.le_refl _) (Below.refl _ _) (Nat.le_refl _) (by decide) ?_); go_must (intro v1 w1 hN hb hg1 hv; obtain ⟨A1, c1, rfl⟩ := Kd.N_slice hN; have HN1 := Aside0.mk hN; have HB := Aside0.mk hb; clear hN hb hg1 hv))
  have HBd := Aside0.mk HB.out.drew
  refine start_ (n := 10) (S := fun w' => w'.cell? ⟨ad.block, ad.off + 1, none⟩ = some (.string wd) ∧ w'.cell? ⟨ad.block, ad.off + 2, none⟩ = some (.string wz)) (ds := []) #[false, false, false, false, false, false, false, false, false, false] (by kernel_rfl) rfl rfl (CK.out _ HBd.out) (fun hHeld => with_tabW key41_tab key41_bits (fun HT_ HW_ => ?_))
  generalize w1.drew = we at HBd hHeld ⊢
  refine pure_ (i := 0) (N := some 67) (v := ?_) (a' := ?_) #[true, false, false, false, false, false, false, false, false, false] rfl rfl (any_of HT_.out (by kernel_rfl)) (fun _ _ _ h => h) (Or.inl ⟨by rfl, ?_⟩) ?_ ?_
  rotate_left
  · intro w'
    go_simp
    with_reducible rfl
  rotate_left
  · simp only [Act.put, List.setIfInBounds_toArray, List.set_cons_zero, List.set_cons_succ, i64_w, i32_w]
    rfl
  refine pure_ (i := 1) (N := some 68) (v := ?_) (a' := ?_) #[true, true, false, false, false, false, false, false, false, false] rfl rfl (any_of HT_.out (by kernel_rfl)) (fun _ _ _ h => h) (Or.inl ⟨by rfl, ?_⟩) ?_ ?_
  rotate_left
  · intro w'
    go_simp
    with_reducible rfl
  rotate_left
  · simp only [Act.put, List.setIfInBounds_toArray, List.set_cons_zero, List.set_cons_succ, i64_w, i32_w]
    rfl
  refine take_ (i := 2) (N := some 69) (v := ?_) (a' := ?_) #[true, true, true, false, false, false, false, false, false, false] rfl rfl (take_ofW HT_.out HW_.out (by kernel_rfl)) (fun _ _ _ h => h) (Or.inl ⟨by rfl, ?_⟩) hHeld ?_ ?_
  rotate_left
  · rintro w' ⟨s0, s1⟩
    go_simp
    with_reducible rfl
  rotate_left
  · simp only [Act.put, List.setIfInBounds_toArray, List.set_cons_zero, List.set_cons_succ, i64_w, i32_w]
    rfl
  refine pure_ (i := 3) (N := some 70) (v := ?_) (a' := ?_) #[true, true, true, true, false, false, false, false, false, false] rfl rfl (any_of HT_.out (by kernel_rfl)) (fun _ _ _ h => h) (Or.inl ⟨by rfl, ?_⟩) ?_ ?_
  rotate_left
  · intro w'
    go_simp
    with_reducible rfl
  rotate_left
  · simp only [Act.put, List.setIfInBounds_toArray, List.set_cons_zero, List.set_cons_succ, i64_w, i32_w]
    rfl
  refine pure_ (i := 4) (N := some 71) (v := ?_) (a' := ?_) #[true, true, true, true, true, false, false, false, false, false] rfl rfl (any_of HT_.out (by kernel_rfl)) (fun _ _ _ h => h) (Or.inl ⟨by rfl, ?_⟩) ?_ ?_
  rotate_left
  · intro w'
    go_simp
    with_reducible rfl
  rotate_left
  · simp only [Act.put, List.setIfInBounds_toArray, List.set_cons_zero, List.set_cons_succ, i64_w, i32_w]
    rfl
  refine pure_ (i := 5) (N := some 72) (v := ?_) (a' := ?_) #[true, true, true, true, true, true, false, false, false, false] rfl rfl (any_of HT_.out (by kernel_rfl)) (fun _ _ _ h => h) (Or.inl ⟨by rfl, ?_⟩) ?_ ?_
  rotate_left
  · intro w'
    go_simp
    with_reducible rfl
  rotate_left
  · simp only [Act.put, List.setIfInBounds_toArray, List.set_cons_zero, List.set_cons_succ, i64_w, i32_w]
    rfl
  refine take_ (i := 6) (N := some 73) (v := ?_) (a' := ?_) #[true, true, true, true, true, true, true, false, false, false] rfl rfl (take_ofW HT_.out HW_.out (by kernel_rfl)) (fun _ _ _ h => h) (Or.inl ⟨by rfl, ?_⟩) hHeld ?_ ?_
  rotate_left
  · rintro w' ⟨s0, s1⟩
    go_simp
    with_reducible rfl
  rotate_left
  · simp only [Act.put, List.setIfInBounds_toArray, List.set_cons_zero, List.set_cons_succ, i64_w, i32_w]
    rfl
  refine pure_ (i := 7) (N := some 74) (v := ?_) (a' := ?_) #[true, true, true, true, true, true, true, true, false, false] rfl rfl (any_of HT_.out (by kernel_rfl)) (fun _ _ _ h => h) (Or.inl ⟨by rfl, ?_⟩) ?_ ?_
  rotate_left
  · intro w'
    go_simp
    with_reducible rfl
  rotate_left
  · simp only [Act.put, List.setIfInBounds_toArray, List.set_cons_zero, List.set_cons_succ, i64_w, i32_w]
    rfl
  refine one_ (i := 8) (N := some 75) #[true, true, true, true, true, true, true, true, true, false] rfl rfl (one_of HT_.out (by kernel_rfl)) (by decide) (fun K hK => ?_)
  refine Kd.N_lit_step kUse (w0 := W) W.heap.size 56 ?hw (N' := 75) ?hd (xs := [(⟨wd, true, true⟩ : UseD), ⟨wz, false, true⟩]) (inner := [.string wd, .bool true, .bool true, .string wz, .bool false, .bool true]) (ok := fun b => W.heap.size ≤ b) (okp := fun _ => False) ?hr (Reps.front (kUse_FK _ _ _) rfl (Reps.front (kUse_FK _ _ _) rfl (Reps.none _ _) rfl) rfl) (fun _ h => h.elim) HBd.out.size HBd.out HBd.out.size (by simp) ?_
  (case hw => rfl)
  (case hd => rfl)
  (case hr => first | (go_simp; done) | (go_simp; rfl) | (go_simp; exact ⟨rfl, rfl⟩))
  intro v2 w2 hN2 hb2 hg2 hv2
  obtain ⟨A2, c2, rfl⟩ := Kd.N_slice hN2
  have HN2 := Aside0.mk hN2
  replace HB := Aside0.mk hb2
  clear hN2 hb2 hg2 hv2
  refine hK.out _ _ (CK.out _ HB.out) (fun hHeld => ?_)
  clear hK K
  refine norm_ (a' := ?_) ?_ ?_
  rotate_left
  · show Act.put _ (some 75) _ = _
    simp only [Act.put, List.setIfInBounds_toArray, List.set_cons_zero, List.set_cons_succ, i64_w, i32_w]
    rfl
  refine pure_ (i := 9) (N := some 4) (v := ?_) (a' := ?_) #[true, true, true, true, true, true, true, true, true, true] rfl rfl (any_of HT_.out (by kernel_rfl)) (fun _ _ _ h => h) (Or.inl ⟨by rfl, ?_⟩) ?_ ?_
  rotate_left
  · intro w'
    go_simp
    with_reducible rfl
  rotate_left
  · simp only [Act.put, List.setIfInBounds_toArray, List.set_cons_zero, List.set_cons_succ, i64_w, i32_w]
    rfl
  refine done_ (done_of HT_.out (by kernel_rfl)) ?_
  go_wp2_with fail
  (refine bodyPost_ret (v := .slice A2 2 c2) (by simp [results, Try.results46, go_sem]) rfl ?_; unfold RowSaid; exact ⟨A2, c2, rfl, (Kd.N_reads' HN2.out).2.1, ⟨Kd.N_F HN2.out⟩, ⟨HB.out⟩⟩)
set_option maxHeartbeats 8000000 in
set_option maxRecDepth 100000 in
theorem key_smove (p : Nat) (hlo : 35 ≤ p) (hhi : p < 36) (hpos : ∀ i, i < 41 → (nm.toList == KLITS.getD i []) = (p == i)) (hF : Kd.F Kd.string W ok A n xs) (hn : 3 ≤ n) :
    Calls Try.prog 46 #[.string nm, .slice A n cp] W fun e W' => RowSaid kUse ([⟨word xs 1, true, true⟩, ⟨word xs 2, true, true⟩]) W e W' := by
  have o0 : (nm.toList == [103, 101, 116]) = (p == 0) := hpos 0 (by decide)
  have o1 : (nm.toList == [115, 116, 114, 108, 101, 110]) = (p == 1) := hpos 1 (by decide)
  have o2 : (nm.toList == [108, 108, 101, 110]) = (p == 2) := hpos 2 (by decide)
  have o3 : (nm.toList == [108, 114, 97, 110, 103, 101]) = (p == 3) := hpos 3 (by decide)
  have o4 : (nm.toList == [104, 103, 101, 116]) = (p == 4) := hpos 4 (by decide)
  have o5 : (nm.toList == [104, 108, 101, 110]) = (p == 5) := hpos 5 (by decide)
  have o6 : (nm.toList == [104, 103, 101, 116, 97, 108, 108]) = (p == 6) := hpos 6 (by decide)
  have o7 : (nm.toList == [115, 105, 115, 109, 101, 109, 98, 101, 114]) = (p == 7) := hpos 7 (by decide)
  have o8 : (nm.toList == [115, 109, 101, 109, 98, 101, 114, 115]) = (p == 8) := hpos 8 (by decide)
  have o9 : (nm.toList == [115, 99, 97, 114, 100]) = (p == 9) := hpos 9 (by decide)
  have o10 : (nm.toList == [122, 115, 99, 111, 114, 101]) = (p == 10) := hpos 10 (by decide)
  have o11 : (nm.toList == [122, 114, 97, 110, 103, 101]) = (p == 11) := hpos 11 (by decide)
  have o12 : (nm.toList == [122, 99, 97, 114, 100]) = (p == 12) := hpos 12 (by decide)
  have o13 : (nm.toList == [116, 121, 112, 101]) = (p == 13) := hpos 13 (by decide)
  have o14 : (nm.toList == [116, 116, 108]) = (p == 14) := hpos 14 (by decide)
  have o15 : (nm.toList == [97, 112, 112, 101, 110, 100]) = (p == 15) := hpos 15 (by decide)
  have o16 : (nm.toList == [105, 110, 99, 114, 98, 121]) = (p == 16) := hpos 16 (by decide)
  have o17 : (nm.toList == [105, 110, 99, 114]) = (p == 17) := hpos 17 (by decide)
  have o18 : (nm.toList == [103, 101, 116, 100, 101, 108]) = (p == 18) := hpos 18 (by decide)
  have o19 : (nm.toList == [108, 112, 117, 115, 104]) = (p == 19) := hpos 19 (by decide)
  have o20 : (nm.toList == [114, 112, 117, 115, 104]) = (p == 20) := hpos 20 (by decide)
  have o21 : (nm.toList == [108, 112, 111, 112]) = (p == 21) := hpos 21 (by decide)
  have o22 : (nm.toList == [114, 112, 111, 112]) = (p == 22) := hpos 22 (by decide)
  have o23 : (nm.toList == [104, 115, 101, 116]) = (p == 23) := hpos 23 (by decide)
  have o24 : (nm.toList == [104, 100, 101, 108]) = (p == 24) := hpos 24 (by decide)
  have o25 : (nm.toList == [104, 105, 110, 99, 114, 98, 121]) = (p == 25) := hpos 25 (by decide)
  have o26 : (nm.toList == [115, 97, 100, 100]) = (p == 26) := hpos 26 (by decide)
  have o27 : (nm.toList == [115, 114, 101, 109]) = (p == 27) := hpos 27 (by decide)
  have o28 : (nm.toList == [122, 97, 100, 100]) = (p == 28) := hpos 28 (by decide)
  have o29 : (nm.toList == [122, 114, 101, 109]) = (p == 29) := hpos 29 (by decide)
  have o30 : (nm.toList == [122, 105, 110, 99, 114, 98, 121]) = (p == 30) := hpos 30 (by decide)
  have o31 : (nm.toList == [101, 120, 112, 105, 114, 101]) = (p == 31) := hpos 31 (by decide)
  have o32 : (nm.toList == [112, 101, 114, 115, 105, 115, 116]) = (p == 32) := hpos 32 (by decide)
  have o33 : (nm.toList == [115, 101, 116]) = (p == 33) := hpos 33 (by decide)
  have o34 : (nm.toList == [114, 101, 110, 97, 109, 101]) = (p == 34) := hpos 34 (by decide)
  have o35 : (nm.toList == [115, 109, 111, 118, 101]) = (p == 35) := hpos 35 (by decide)
  clear hpos
  obtain ⟨ad, rfl⟩ := some_at hF (by omega)
  have c1 := word_cell hF 1 (by omega)
  have c2 := word_cell hF 2 (by omega)
  rw [show ad.add 1 = ⟨ad.block, ad.off + 1, none⟩ from by unfold Addr.add; simp] at c1
  rw [show ad.add 2 = ⟨ad.block, ad.off + 2, none⟩ from by unfold Addr.add; simp] at c2
  have HF := Aside0.mk hF
  clear hF
  generalize word xs 1 = wd at *
  generalize word xs 2 = wz at *
  have i1 : (1 : Int) < (n : Int) := by omega
  have i2 : (2 : Int) < (n : Int) := by omega
  have CK : Aside0 (∀ w : World, Below W.heap.size W w → w.cell? ⟨ad.block, ad.off + 1, none⟩ = some (.string wd) ∧ w.cell? ⟨ad.block, ad.off + 2, none⟩ = some (.string wz)) := ⟨fun w hb => ⟨pw_cell_below hb c1, pw_cell_below hb c2⟩⟩
  clear c1 c2
  obtain rfl : p = 35 := by omega
  simp only [Nat.reduceBEq] at o0 o1 o2 o3 o4 o5 o6 o7 o8 o9 o10 o11 o12 o13 o14 o15 o16 o17 o18 o19 o20 o21 o22 o23 o24 o25 o26 o27 o28 o29 o30 o31 o32 o33 o34 o35
  go_enter Try.func46, Try.ntmps46
  go_wp2_with ((with_reducible refine gate_dst (N := 8) rfl ?_); go_must (refine Kd.N_lit kUse (w0 := W) W.heap.size 56 rfl (N' := 8) rfl (xs := ([] : List UseD)) (inner := []) (ok := fun b => W.heap.size ≤ b) (okp := fun _ => False) (by go_simp; try rfl) (Reps.none _ _) (fun _ hk => hk.elim) (Nat.le_refl _) (Below.refl _ _) (Nat.le_refl _) (by decide) ?_); go_must (intro v1 w1 hN hb hg1 hv; obtain ⟨A1, c1, rfl⟩ := Kd.N_slice hN; have HN1 := Aside0.mk hN; have HB := Aside0.mk hb; clear hN hb hg1 hv))
  have HBd := Aside0.mk HB.out.drew
  refine start_ (n := 10) (S := fun w' => w'.cell? ⟨ad.block, ad.off + 1, none⟩ = some (.string wd) ∧ w'.cell? ⟨ad.block, ad.off + 2, none⟩ = some (.string wz)) (ds := []) #[false, false, false, false, false, false, false, false, false, false] (by kernel_rfl) rfl rfl (CK.out _ HBd.out) (fun hHeld => with_tabW key43_tab key43_bits (fun HT_ HW_ => ?_))
  generalize w1.drew = we at HBd hHeld ⊢
  refine pure_ (i := 0) (N := some 78) (v := ?_) (a' := ?_) #[true, false, false, false, false, false, false, false, false, false] rfl rfl (any_of HT_.out (by kernel_rfl)) (fun _ _ _ h => h) (Or.inl ⟨by rfl, ?_⟩) ?_ ?_
  rotate_left
  · intro w'
    go_simp
    with_reducible rfl
  rotate_left
  · simp only [Act.put, List.setIfInBounds_toArray, List.set_cons_zero, List.set_cons_succ, i64_w, i32_w]
    rfl
  refine pure_ (i := 1) (N := some 79) (v := ?_) (a' := ?_) #[true, true, false, false, false, false, false, false, false, false] rfl rfl (any_of HT_.out (by kernel_rfl)) (fun _ _ _ h => h) (Or.inl ⟨by rfl, ?_⟩) ?_ ?_
  rotate_left
  · intro w'
    go_simp
    with_reducible rfl
  rotate_left
  · simp only [Act.put, List.setIfInBounds_toArray, List.set_cons_zero, List.set_cons_succ, i64_w, i32_w]
    rfl
  refine take_ (i := 2) (N := some 80) (v := ?_) (a' := ?_) #[true, true, true, false, false, false, false, false, false, false] rfl rfl (take_ofW HT_.out HW_.out (by kernel_rfl)) (fun _ _ _ h => h) (Or.inl ⟨by rfl, ?_⟩) hHeld ?_ ?_
  rotate_left
  · rintro w' ⟨s0, s1⟩
    go_simp
    with_reducible rfl
  rotate_left
  · simp only [Act.put, List.setIfInBounds_toArray, List.set_cons_zero, List.set_cons_succ, i64_w, i32_w]
    rfl
  refine pure_ (i := 3) (N := some 81) (v := ?_) (a' := ?_) #[true, true, true, true, false, false, false, false, false, false] rfl rfl (any_of HT_.out (by kernel_rfl)) (fun _ _ _ h => h) (Or.inl ⟨by rfl, ?_⟩) ?_ ?_
  rotate_left
  · intro w'
    go_simp
    with_reducible rfl
  rotate_left
  · simp only [Act.put, List.setIfInBounds_toArray, List.set_cons_zero, List.set_cons_succ, i64_w, i32_w]
    rfl
  refine pure_ (i := 4) (N := some 82) (v := ?_) (a' := ?_) #[true, true, true, true, true, false, false, false, false, false] rfl rfl (any_of HT_.out (by kernel_rfl)) (fun _ _ _ h => h) (Or.inl ⟨by rfl, ?_⟩) ?_ ?_
  rotate_left
  · intro w'
    go_simp
    with_reducible rfl
  rotate_left
  · simp only [Act.put, List.setIfInBounds_toArray, List.set_cons_zero, List.set_cons_succ, i64_w, i32_w]
    rfl
  refine pure_ (i := 5) (N := some 83) (v := ?_) (a' := ?_) #[true, true, true, true, true, true, false, false, false, false] rfl rfl (any_of HT_.out (by kernel_rfl)) (fun _ _ _ h => h) (Or.inl ⟨by rfl, ?_⟩) ?_ ?_
  rotate_left
  · intro w'
    go_simp
    with_reducible rfl
  rotate_left
  · simp only [Act.put, List.setIfInBounds_toArray, List.set_cons_zero, List.set_cons_succ, i64_w, i32_w]
    rfl
  refine take_ (i := 6) (N := some 84) (v := ?_) (a' := ?_) #[true, true, true, true, true, true, true, false, false, false] rfl rfl (take_ofW HT_.out HW_.out (by kernel_rfl)) (fun _ _ _ h => h) (Or.inl ⟨by rfl, ?_⟩) hHeld ?_ ?_
  rotate_left
  · rintro w' ⟨s0, s1⟩
    go_simp
    with_reducible rfl
  rotate_left
  · simp only [Act.put, List.setIfInBounds_toArray, List.set_cons_zero, List.set_cons_succ, i64_w, i32_w]
    rfl
  refine pure_ (i := 7) (N := some 85) (v := ?_) (a' := ?_) #[true, true, true, true, true, true, true, true, false, false] rfl rfl (any_of HT_.out (by kernel_rfl)) (fun _ _ _ h => h) (Or.inl ⟨by rfl, ?_⟩) ?_ ?_
  rotate_left
  · intro w'
    go_simp
    with_reducible rfl
  rotate_left
  · simp only [Act.put, List.setIfInBounds_toArray, List.set_cons_zero, List.set_cons_succ, i64_w, i32_w]
    rfl
  refine one_ (i := 8) (N := some 86) #[true, true, true, true, true, true, true, true, true, false] rfl rfl (one_of HT_.out (by kernel_rfl)) (by decide) (fun K hK => ?_)
  refine Kd.N_lit_step kUse (w0 := W) W.heap.size 56 ?hw (N' := 86) ?hd (xs := [(⟨wd, true, true⟩ : UseD), ⟨wz, true, true⟩]) (inner := [.string wd, .bool true, .bool true, .string wz, .bool true, .bool true]) (ok := fun b => W.heap.size ≤ b) (okp := fun _ => False) ?hr (Reps.front (kUse_FK _ _ _) rfl (Reps.front (kUse_FK _ _ _) rfl (Reps.none _ _) rfl) rfl) (fun _ h => h.elim) HBd.out.size HBd.out HBd.out.size (by simp) ?_
  (case hw => rfl)
  (case hd => rfl)
  (case hr => first | (go_simp; done) | (go_simp; rfl) | (go_simp; exact ⟨rfl, rfl⟩))
  intro v2 w2 hN2 hb2 hg2 hv2
  obtain ⟨A2, c2, rfl⟩ := Kd.N_slice hN2
  have HN2 := Aside0.mk hN2
  replace HB := Aside0.mk hb2
  clear hN2 hb2 hg2 hv2
  refine hK.out _ _ (CK.out _ HB.out) (fun hHeld => ?_)
  clear hK K
  refine norm_ (a' := ?_) ?_ ?_
  rotate_left
  · show Act.put _ (some 86) _ = _
    simp only [Act.put, List.setIfInBounds_toArray, List.set_cons_zero, List.set_cons_succ, i64_w, i32_w]
    rfl
  refine pure_ (i := 9) (N := some 4) (v := ?_) (a' := ?_) #[true, true, true, true, true, true, true, true, true, true] rfl rfl (any_of HT_.out (by kernel_rfl)) (fun _ _ _ h => h) (Or.inl ⟨by rfl, ?_⟩) ?_ ?_
  rotate_left
  · intro w'
    go_simp
    with_reducible rfl
  rotate_left
  · simp only [Act.put, List.setIfInBounds_toArray, List.set_cons_zero, List.set_cons_succ, i64_w, i32_w]
    rfl
  refine done_ (done_of HT_.out (by kernel_rfl)) ?_
  go_wp2_with fail
  (refine bodyPost_ret (v := .slice A2 2 c2) (by simp [results, Try.results46, go_sem]) rfl ?_; unfold RowSaid; exact ⟨A2, c2, rfl, (Kd.N_reads' HN2.out).2.1, ⟨Kd.N_F HN2.out⟩, ⟨HB.out⟩⟩)
end
end Go.Proofs.Ytflnpgfddedahaa.U
