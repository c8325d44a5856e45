/- The reference's keys of a request: further kinds. -/
import Derived.Test.YtflnpgfddedahaaS3
namespace Go.Proofs.Ytflnpgfddedahaa.U
open Go.RowKit Go.Great Go.Proofs.YtflnpgfddedahaaW.PrintWords Go.Proofs.YtflnpgfddedahaaW.PrintLast Go.Proofs.YtflnpgfddedahaaW.PrintMore
set_option linter.unusedVariables false
set_option linter.unusedSimpArgs false
section
variable (nm : ByteArray) (A : Option Addr) (n cp : Nat) (xs : List ByteArray) (ok : Nat → Prop) (W : World)
theorem each_len' (s : Nat) (r w : Bool) (xs : List ByteArray) (m : Nat) : (eachUpto s r w xs m).length = m := by unfold eachUpto; simp
set_option maxHeartbeats 8000000 in
set_option maxRecDepth 100000 in
theorem key_each (p : Nat) (hlo : 36 ≤ p) (hhi : p < 39) (hpos : ∀ i, i < 41 → (nm.toList == KLITS.getD i []) = (p == i)) (hF : Kd.F Kd.string W ok A n xs) (M : Nat) (hM : n = M + 1) (h6 : n ≤ 1000000) :
    Calls Try.prog 46 #[.string nm, .slice A n cp] W fun e W' => RowSaid kUse (eachUpto 1 true false xs M) W e W' := by
  have o0 : (nm.toList == [103, 101, 116]) = (p == 0) := hpos 0 (by decide)
  have o1 : (nm.toList == [115, 116, 114, 108, 101, 110]) = (p == 1) := hpos 1 (by decide)
  have o2 : (nm.toList == [108, 108, 101, 110]) = (p == 2) := hpos 2 (by decide)
  have o3 : (nm.toList == [108, 114, 97, 110, 103, 101]) = (p == 3) := hpos 3 (by decide)
  have o4 : (nm.toList == [104, 103, 101, 116]) = (p == 4) := hpos 4 (by decide)
  have o5 : (nm.toList == [104, 108, 101, 110]) = (p == 5) := hpos 5 (by decide)
  have o6 : (nm.toList == [104, 103, 101, 116, 97, 108, 108]) = (p == 6) := hpos 6 (by decide)
  have o7 : (nm.toList == [115, 105, 115, 109, 101, 109, 98, 101, 114]) = (p == 7) := hpos 7 (by decide)
  have o8 : (nm.toList == [115, 109, 101, 109, 98, 101, 114, 115]) = (p == 8) := hpos 8 (by decide)
  have o9 : (nm.toList == [115, 99, 97, 114, 100]) = (p == 9) := hpos 9 (by decide)
  have o10 : (nm.toList == [122, 115, 99, 111, 114, 101]) = (p == 10) := hpos 10 (by decide)
  have o11 : (nm.toList == [122, 114, 97, 110, 103, 101]) = (p == 11) := hpos 11 (by decide)
  have o12 : (nm.toList == [122, 99, 97, 114, 100]) = (p == 12) := hpos 12 (by decide)
  have o13 : (nm.toList == [116, 121, 112, 101]) = (p == 13) := hpos 13 (by decide)
  have o14 : (nm.toList == [116, 116, 108]) = (p == 14) := hpos 14 (by decide)
  have o15 : (nm.toList == [97, 112, 112, 101, 110, 100]) = (p == 15) := hpos 15 (by decide)
  have o16 : (nm.toList == [105, 110, 99, 114, 98, 121]) = (p == 16) := hpos 16 (by decide)
  have o17 : (nm.toList == [105, 110, 99, 114]) = (p == 17) := hpos 17 (by decide)
  have o18 : (nm.toList == [103, 101, 116, 100, 101, 108]) = (p == 18) := hpos 18 (by decide)
  have o19 : (nm.toList == [108, 112, 117, 115, 104]) = (p == 19) := hpos 19 (by decide)
  have o20 : (nm.toList == [114, 112, 117, 115, 104]) = (p == 20) := hpos 20 (by decide)
  have o21 : (nm.toList == [108, 112, 111, 112]) = (p == 21) := hpos 21 (by decide)
  have o22 : (nm.toList == [114, 112, 111, 112]) = (p == 22) := hpos 22 (by decide)
  have o23 : (nm.toList == [104, 115, 101, 116]) = (p == 23) := hpos 23 (by decide)
  have o24 : (nm.toList == [104, 100, 101, 108]) = (p == 24) := hpos 24 (by decide)
  have o25 : (nm.toList == [104, 105, 110, 99, 114, 98, 121]) = (p == 25) := hpos 25 (by decide)
  have o26 : (nm.toList == [115, 97, 100, 100]) = (p == 26) := hpos 26 (by decide)
  have o27 : (nm.toList == [115, 114, 101, 109]) = (p == 27) := hpos 27 (by decide)
  have o28 : (nm.toList == [122, 97, 100, 100]) = (p == 28) := hpos 28 (by decide)
  have o29 : (nm.toList == [122, 114, 101, 109]) = (p == 29) := hpos 29 (by decide)
  have o30 : (nm.toList == [122, 105, 110, 99, 114, 98, 121]) = (p == 30) := hpos 30 (by decide)
  have o31 : (nm.toList == [101, 120, 112, 105, 114, 101]) = (p == 31) := hpos 31 (by decide)
  have o32 : (nm.toList == [112, 101, 114, 115, 105, 115, 116]) = (p == 32) := hpos 32 (by decide)
  have o33 : (nm.toList == [115, 101, 116]) = (p == 33) := hpos 33 (by decide)
  have o34 : (nm.toList == [114, 101, 110, 97, 109, 101]) = (p == 34) := hpos 34 (by decide)
  have o35 : (nm.toList == [115, 109, 111, 118, 101]) = (p == 35) := hpos 35 (by decide)
  have o36 : (nm.toList == [109, 103, 101, 116]) = (p == 36) := hpos 36 (by decide)
  have o37 : (nm.toList == [101, 120, 105, 115, 116, 115]) = (p == 37) := hpos 37 (by decide)
  have o38 : (nm.toList == [119, 97, 116, 99, 104]) = (p == 38) := hpos 38 (by decide)
  have o39 : (nm.toList == [100, 101, 108]) = (p == 39) := hpos 39 (by decide)
  clear hpos
  have HF := Aside0.mk hF
  clear hF
  rcases (show p = 36 ∨ p = 37 ∨ p = 38 by omega) with rfl | rfl | rfl
  all_goals
    simp only [Nat.reduceBEq] at o0 o1 o2 o3 o4 o5 o6 o7 o8 o9 o10 o11 o12 o13 o14 o15 o16 o17 o18 o19 o20 o21 o22 o23 o24 o25 o26 o27 o28 o29 o30 o31 o32 o33 o34 o35 o36 o37 o38 o39
    go_enter Try.func46, Try.ntmps46
    go_wp2_with ((with_reducible refine gate_dst (N := 8) rfl ?_); go_must (refine Kd.N_lit kUse (w0 := W) W.heap.size 56 rfl (N' := 8) rfl (xs := ([] : List UseD)) (inner := []) (ok := fun b => W.heap.size ≤ b) (okp := fun _ => False) (by go_simp; try rfl) (Reps.none _ _) (fun _ hk => hk.elim) (Nat.le_refl _) (Below.refl _ _) (Nat.le_refl _) (by decide) ?_); go_must (intro v1 w1 hN hb hg1 hv; obtain ⟨A1, c1, rfl⟩ := Kd.N_slice hN; have HN1 := Aside0.mk hN; have HB := Aside0.mk hb; clear hN hb hg1 hv))
    go_loopw [5, 6] (fun v5 v6 wr => ∃ (j i : Nat) (A3 : Option Addr) (c3 : Nat), j ≤ M ∧ i = 1 + 1 * j ∧ v6 = .int .i64 i ∧ v5 = .slice A3 j c3 ∧ Aside0 (Kd.N kUse 56 wr W.heap.size (fun b => W.heap.size ≤ b) (.slice A3 j c3) (eachUpto 1 true false xs j)) ∧ Aside0 (Below W.heap.size W wr)) (fun _ v6 _ => n - (intOf v6).toNat)
    case atStart => exact ⟨0, 1, A1, c1, Nat.zero_le _, rfl, rfl, rfl, HN1, HB⟩
    case round =>
      obtain ⟨j, i, A3, c3, hjm, hij, rfl, rfl, HN, HBr⟩ := hrel
      have HIJ := Aside0.mk hij
      by_cases hj : j < M
      · have i0 : (i : Int) < (n : Int) := by omega
        have i1 : (0 : Int) ≤ (i : Int) := by omega
        obtain ⟨ad, hl, rfl, c0⟩ := text_at (Kd.F_below HF.out HBr.out) i (by omega)
        rw [word_get] at c0
        have HY := Aside0.mk (each_succ 1 true false xs j)
        rw [← hij] at HY
        clear hij
        obtain ⟨wd, hwd⟩ : ∃ wd, wd = word xs i := ⟨_, rfl⟩
        rw [← hwd] at c0 HY
        clear hwd
        go_wp2_with ((with_reducible refine gate_builtin (b := .append) (xs := #[.tmp 98, .tmp 106]) rfl ?_); at_builtin; go_must (refine Kd.N_append kUse (w0 := W) W.heap.size rfl (.tmp 98) (.tmp 106) 44 56 (.agg #[.string ⟨#[]⟩, .bool false, .bool false]) 24 rfl Try.underlying44 info56 rfl (Nat.le_add_left _ _) (Nat.le_add_left _ _) (.slice A3 j c3) (eachUpto 1 true false xs j) ⟨wd, true, false⟩ [.string wd, .bool true, .bool false] (fun b => W.heap.size ≤ b) (fun _ => False) ?hs ?hx ?x1 (fun _ h => h.elim) ?x3 HN.out HBr.out HBr.out.size ?x7 ?_); go_must ((case hs => rfl)); go_must ((case hx => rfl)); go_must ((case x1 => exact kUse_FK _ _ ⟨wd, true, false⟩)); go_must ((case x3 => exact fun b hb => Nat.le_trans HBr.out.size hb)); go_must ((case x7 => rw [each_len']; omega)); go_must (intro v6 w6 hN6 hb6 hg6 _; rw [← HY.out] at hN6; obtain ⟨A6, c6, he6⟩ := Kd.N_slice hN6; rw [each_len'] at he6; subst he6; have HN6 := Aside0.mk hN6; have HB6 := Aside0.mk hb6; clear hN6 hb6 hg6))
        go_roundw
        case rel => exact ⟨j + 1, i + 1, A6, c6, by omega, by have := HIJ.out; omega, by go_num, rfl, HN6, HB6⟩
        case measure => simp [intOf]; omega
      · obtain rfl : j = M := by omega
        have i0 : ¬ (i : Int) < (n : Int) := by omega
        clear hij
        go_wp2_with fail
        refine bodyPost_ret (v := .slice A3 j c3) (by simp [results, Try.results46, go_sem]) rfl ?_
        unfold RowSaid
        rw [each_len']
        exact ⟨A3, c3, rfl, by have h := (Kd.N_reads' HN.out).2.1; exact h, ⟨Kd.N_F HN.out⟩, ⟨HBr.out⟩⟩
set_option maxHeartbeats 8000000 in
set_option maxRecDepth 100000 in
theorem key_del (p : Nat) (hlo : 39 ≤ p) (hhi : p < 40) (hpos : ∀ i, i < 41 → (nm.toList == KLITS.getD i []) = (p == i)) (hF : Kd.F Kd.string W ok A n xs) (M : Nat) (hM : n = M + 1) (h6 : n ≤ 1000000) :
    Calls Try.prog 46 #[.string nm, .slice A n cp] W fun e W' => RowSaid kUse (eachUpto 1 true true xs M) W e W' := by
  have o0 : (nm.toList == [103, 101, 116]) = (p == 0) := hpos 0 (by decide)
  have o1 : (nm.toList == [115, 116, 114, 108, 101, 110]) = (p == 1) := hpos 1 (by decide)
  have o2 : (nm.toList == [108, 108, 101, 110]) = (p == 2) := hpos 2 (by decide)
  have o3 : (nm.toList == [108, 114, 97, 110, 103, 101]) = (p == 3) := hpos 3 (by decide)
  have o4 : (nm.toList == [104, 103, 101, 116]) = (p == 4) := hpos 4 (by decide)
  have o5 : (nm.toList == [104, 108, 101, 110]) = (p == 5) := hpos 5 (by decide)
  have o6 : (nm.toList == [104, 103, 101, 116, 97, 108, 108]) = (p == 6) := hpos 6 (by decide)
  have o7 : (nm.toList == [115, 105, 115, 109, 101, 109, 98, 101, 114]) = (p == 7) := hpos 7 (by decide)
  have o8 : (nm.toList == [115, 109, 101, 109, 98, 101, 114, 115]) = (p == 8) := hpos 8 (by decide)
  have o9 : (nm.toList == [115, 99, 97, 114, 100]) = (p == 9) := hpos 9 (by decide)
  have o10 : (nm.toList == [122, 115, 99, 111, 114, 101]) = (p == 10) := hpos 10 (by decide)
  have o11 : (nm.toList == [122, 114, 97, 110, 103, 101]) = (p == 11) := hpos 11 (by decide)
  have o12 : (nm.toList == [122, 99, 97, 114, 100]) = (p == 12) := hpos 12 (by decide)
  have o13 : (nm.toList == [116, 121, 112, 101]) = (p == 13) := hpos 13 (by decide)
  have o14 : (nm.toList == [116, 116, 108]) = (p == 14) := hpos 14 (by decide)
  have o15 : (nm.toList == [97, 112, 112, 101, 110, 100]) = (p == 15) := hpos 15 (by decide)
  have o16 : (nm.toList == [105, 110, 99, 114, 98, 121]) = (p == 16) := hpos 16 (by decide)
  have o17 : (nm.toList == [105, 110, 99, 114]) = (p == 17) := hpos 17 (by decide)
  have o18 : (nm.toList == [103, 101, 116, 100, 101, 108]) = (p == 18) := hpos 18 (by decide)
  have o19 : (nm.toList == [108, 112, 117, 115, 104]) = (p == 19) := hpos 19 (by decide)
  have o20 : (nm.toList == [114, 112, 117, 115, 104]) = (p == 20) := hpos 20 (by decide)
  have o21 : (nm.toList == [108, 112, 111, 112]) = (p == 21) := hpos 21 (by decide)
  have o22 : (nm.toList == [114, 112, 111, 112]) = (p == 22) := hpos 22 (by decide)
  have o23 : (nm.toList == [104, 115, 101, 116]) = (p == 23) := hpos 23 (by decide)
  have o24 : (nm.toList == [104, 100, 101, 108]) = (p == 24) := hpos 24 (by decide)
  have o25 : (nm.toList == [104, 105, 110, 99, 114, 98, 121]) = (p == 25) := hpos 25 (by decide)
  have o26 : (nm.toList == [115, 97, 100, 100]) = (p == 26) := hpos 26 (by decide)
  have o27 : (nm.toList == [115, 114, 101, 109]) = (p == 27) := hpos 27 (by decide)
  have o28 : (nm.toList == [122, 97, 100, 100]) = (p == 28) := hpos 28 (by decide)
  have o29 : (nm.toList == [122, 114, 101, 109]) = (p == 29) := hpos 29 (by decide)
  have o30 : (nm.toList == [122, 105, 110, 99, 114, 98, 121]) = (p == 30) := hpos 30 (by decide)
  have o31 : (nm.toList == [101, 120, 112, 105, 114, 101]) = (p == 31) := hpos 31 (by decide)
  have o32 : (nm.toList == [112, 101, 114, 115, 105, 115, 116]) = (p == 32) := hpos 32 (by decide)
  have o33 : (nm.toList == [115, 101, 116]) = (p == 33) := hpos 33 (by decide)
  have o34 : (nm.toList == [114, 101, 110, 97, 109, 101]) = (p == 34) := hpos 34 (by decide)
  have o35 : (nm.toList == [115, 109, 111, 118, 101]) = (p == 35) := hpos 35 (by decide)
  have o36 : (nm.toList == [109, 103, 101, 116]) = (p == 36) := hpos 36 (by decide)
  have o37 : (nm.toList == [101, 120, 105, 115, 116, 115]) = (p == 37) := hpos 37 (by decide)
  have o38 : (nm.toList == [119, 97, 116, 99, 104]) = (p == 38) := hpos 38 (by decide)
  have o39 : (nm.toList == [100, 101, 108]) = (p == 39) := hpos 39 (by decide)
  clear hpos
  have HF := Aside0.mk hF
  clear hF
  obtain rfl : p = 39 := by omega
  simp only [Nat.reduceBEq] at o0 o1 o2 o3 o4 o5 o6 o7 o8 o9 o10 o11 o12 o13 o14 o15 o16 o17 o18 o19 o20 o21 o22 o23 o24 o25 o26 o27 o28 o29 o30 o31 o32 o33 o34 o35 o36 o37 o38 o39
  go_enter Try.func46, Try.ntmps46
  go_wp2_with ((with_reducible refine gate_dst (N := 8) rfl ?_); go_must (refine Kd.N_lit kUse (w0 := W) W.heap.size 56 rfl (N' := 8) rfl (xs := ([] : List UseD)) (inner := []) (ok := fun b => W.heap.size ≤ b) (okp := fun _ => False) (by go_simp; try rfl) (Reps.none _ _) (fun _ hk => hk.elim) (Nat.le_refl _) (Below.refl _ _) (Nat.le_refl _) (by decide) ?_); go_must (intro v1 w1 hN hb hg1 hv; obtain ⟨A1, c1, rfl⟩ := Kd.N_slice hN; have HN1 := Aside0.mk hN; have HB := Aside0.mk hb; clear hN hb hg1 hv))
  go_loopw [5, 6] (fun v5 v6 wr => ∃ (j i : Nat) (A3 : Option Addr) (c3 : Nat), j ≤ M ∧ i = 1 + 1 * j ∧ v6 = .int .i64 i ∧ v5 = .slice A3 j c3 ∧ Aside0 (Kd.N kUse 56 wr W.heap.size (fun b => W.heap.size ≤ b) (.slice A3 j c3) (eachUpto 1 true true xs j)) ∧ Aside0 (Below W.heap.size W wr)) (fun _ v6 _ => n - (intOf v6).toNat)
  case atStart => exact ⟨0, 1, A1, c1, Nat.zero_le _, rfl, rfl, rfl, HN1, HB⟩
  case round =>
    obtain ⟨j, i, A3, c3, hjm, hij, rfl, rfl, HN, HBr⟩ := hrel
    have HIJ := Aside0.mk hij
    by_cases hj : j < M
    · have i0 : (i : Int) < (n : Int) := by omega
      have i1 : (0 : Int) ≤ (i : Int) := by omega
      obtain ⟨ad, hl, rfl, c0⟩ := text_at (Kd.F_below HF.out HBr.out) i (by omega)
      rw [word_get] at c0
      have HY := Aside0.mk (each_succ 1 true true xs j)
      rw [← hij] at HY
      clear hij
      obtain ⟨wd, hwd⟩ : ∃ wd, wd = word xs i := ⟨_, rfl⟩
      rw [← hwd] at c0 HY
      clear hwd
      go_wp2_with ((with_reducible refine gate_builtin (b := .append) (xs := #[.tmp 98, .tmp 106]) rfl ?_); at_builtin; go_must (refine Kd.N_append kUse (w0 := W) W.heap.size rfl (.tmp 98) (.tmp 106) 44 56 (.agg #[.string ⟨#[]⟩, .bool false, .bool false]) 24 rfl Try.underlying44 info56 rfl (Nat.le_add_left _ _) (Nat.le_add_left _ _) (.slice A3 j c3) (eachUpto 1 true true xs j) ⟨wd, true, true⟩ [.string wd, .bool true, .bool true] (fun b => W.heap.size ≤ b) (fun _ => False) ?hs ?hx ?x1 (fun _ h => h.elim) ?x3 HN.out HBr.out HBr.out.size ?x7 ?_); go_must ((case hs => rfl)); go_must ((case hx => rfl)); go_must ((case x1 => exact kUse_FK _ _ ⟨wd, true, true⟩)); go_must ((case x3 => exact fun b hb => Nat.le_trans HBr.out.size hb)); go_must ((case x7 => rw [each_len']; omega)); go_must (intro v6 w6 hN6 hb6 hg6 _; rw [← HY.out] at hN6; obtain ⟨A6, c6, he6⟩ := Kd.N_slice hN6; rw [each_len'] at he6; subst he6; have HN6 := Aside0.mk hN6; have HB6 := Aside0.mk hb6; clear hN6 hb6 hg6))
      go_roundw
      case rel => exact ⟨j + 1, i + 1, A6, c6, by omega, by have := HIJ.out; omega, by go_num, rfl, HN6, HB6⟩
      case measure => simp [intOf]; omega
    · obtain rfl : j = M := by omega
      have i0 : ¬ (i : Int) < (n : Int) := by omega
      clear hij
      go_wp2_with fail
      refine bodyPost_ret (v := .slice A3 j c3) (by simp [results, Try.results46, go_sem]) rfl ?_
      unfold RowSaid
      rw [each_len']
      exact ⟨A3, c3, rfl, by have h := (Kd.N_reads' HN.out).2.1; exact h, ⟨Kd.N_F HN.out⟩, ⟨HBr.out⟩⟩
set_option maxHeartbeats 8000000 in
set_option maxRecDepth 100000 in
theorem key_mset (p : Nat) (hlo : 40 ≤ p) (hhi : p < 41) (hpos : ∀ i, i < 41 → (nm.toList == KLITS.getD i []) = (p == i)) (hF : Kd.F Kd.string W ok A n xs) (M : Nat) (hM : n = 2 * M + 1) (h6 : n ≤ 1000000) :
    Calls Try.prog 46 #[.string nm, .slice A n cp] W fun e W' => RowSaid kUse (eachUpto 2 false true xs M) W e W' := by
  have o0 : (nm.toList == [103, 101, 116]) = (p == 0) := hpos 0 (by decide)
  have o1 : (nm.toList == [115, 116, 114, 108, 101, 110]) = (p == 1) := hpos 1 (by decide)
  have o2 : (nm.toList == [108, 108, 101, 110]) = (p == 2) := hpos 2 (by decide)
  have o3 : (nm.toList == [108, 114, 97, 110, 103, 101]) = (p == 3) := hpos 3 (by decide)
  have o4 : (nm.toList == [104, 103, 101, 116]) = (p == 4) := hpos 4 (by decide)
  have o5 : (nm.toList == [104, 108, 101, 110]) = (p == 5) := hpos 5 (by decide)
  have o6 : (nm.toList == [104, 103, 101, 116, 97, 108, 108]) = (p == 6) := hpos 6 (by decide)
  have o7 : (nm.toList == [115, 105, 115, 109, 101, 109, 98, 101, 114]) = (p == 7) := hpos 7 (by decide)
  have o8 : (nm.toList == [115, 109, 101, 109, 98, 101, 114, 115]) = (p == 8) := hpos 8 (by decide)
  have o9 : (nm.toList == [115, 99, 97, 114, 100]) = (p == 9) := hpos 9 (by decide)
  have o10 : (nm.toList == [122, 115, 99, 111, 114, 101]) = (p == 10) := hpos 10 (by decide)
  have o11 : (nm.toList == [122, 114, 97, 110, 103, 101]) = (p == 11) := hpos 11 (by decide)
  have o12 : (nm.toList == [122, 99, 97, 114, 100]) = (p == 12) := hpos 12 (by decide)
  have o13 : (nm.toList == [116, 121, 112, 101]) = (p == 13) := hpos 13 (by decide)
  have o14 : (nm.toList == [116, 116, 108]) = (p == 14) := hpos 14 (by decide)
  have o15 : (nm.toList == [97, 112, 112, 101, 110, 100]) = (p == 15) := hpos 15 (by decide)
  have o16 : (nm.toList == [105, 110, 99, 114, 98, 121]) = (p == 16) := hpos 16 (by decide)
  have o17 : (nm.toList == [105, 110, 99, 114]) = (p == 17) := hpos 17 (by decide)
  have o18 : (nm.toList == [103, 101, 116, 100, 101, 108]) = (p == 18) := hpos 18 (by decide)
  have o19 : (nm.toList == [108, 112, 117, 115, 104]) = (p == 19) := hpos 19 (by decide)
  have o20 : (nm.toList == [114, 112, 117, 115, 104]) = (p == 20) := hpos 20 (by decide)
  have o21 : (nm.toList == [108, 112, 111, 112]) = (p == 21) := hpos 21 (by decide)
  have o22 : (nm.toList == [114, 112, 111, 112]) = (p == 22) := hpos 22 (by decide)
  have o23 : (nm.toList == [104, 115, 101, 116]) = (p == 23) := hpos 23 (by decide)
  have o24 : (nm.toList == [104, 100, 101, 108]) = (p == 24) := hpos 24 (by decide)
  have o25 : (nm.toList == [104, 105, 110, 99, 114, 98, 121]) = (p == 25) := hpos 25 (by decide)
  have o26 : (nm.toList == [115, 97, 100, 100]) = (p == 26) := hpos 26 (by decide)
  have o27 : (nm.toList == [115, 114, 101, 109]) = (p == 27) := hpos 27 (by decide)
  have o28 : (nm.toList == [122, 97, 100, 100]) = (p == 28) := hpos 28 (by decide)
  have o29 : (nm.toList == [122, 114, 101, 109]) = (p == 29) := hpos 29 (by decide)
  have o30 : (nm.toList == [122, 105, 110, 99, 114, 98, 121]) = (p == 30) := hpos 30 (by decide)
  have o31 : (nm.toList == [101, 120, 112, 105, 114, 101]) = (p == 31) := hpos 31 (by decide)
  have o32 : (nm.toList == [112, 101, 114, 115, 105, 115, 116]) = (p == 32) := hpos 32 (by decide)
  have o33 : (nm.toList == [115, 101, 116]) = (p == 33) := hpos 33 (by decide)
  have o34 : (nm.toList == [114, 101, 110, 97, 109, 101]) = (p == 34) := hpos 34 (by decide)
  have o35 : (nm.toList == [115, 109, 111, 118, 101]) = (p == 35) := hpos 35 (by decide)
  have o36 : (nm.toList == [109, 103, 101, 116]) = (p == 36) := hpos 36 (by decide)
  have o37 : (nm.toList == [101, 120, 105, 115, 116, 115]) = (p == 37) := hpos 37 (by decide)
  have o38 : (nm.toList == [119, 97, 116, 99, 104]) = (p == 38) := hpos 38 (by decide)
  have o39 : (nm.toList == [100, 101, 108]) = (p == 39) := hpos 39 (by decide)
  have o40 : (nm.toList == [109, 115, 101, 116]) = (p == 40) := hpos 40 (by decide)
  clear hpos
  have HF := Aside0.mk hF
  clear hF
  obtain rfl : p = 40 := by omega
  simp only [Nat.reduceBEq] at o0 o1 o2 o3 o4 o5 o6 o7 o8 o9 o10 o11 o12 o13 o14 o15 o16 o17 o18 o19 o20 o21 o22 o23 o24 o25 o26 o27 o28 o29 o30 o31 o32 o33 o34 o35 o36 o37 o38 o39 o40
  go_enter Try.func46, Try.ntmps46
  go_wp2_with ((with_reducible refine gate_dst (N := 8) rfl ?_); go_must (refine Kd.N_lit kUse (w0 := W) W.heap.size 56 rfl (N' := 8) rfl (xs := ([] : List UseD)) (inner := []) (ok := fun b => W.heap.size ≤ b) (okp := fun _ => False) (by go_simp; try rfl) (Reps.none _ _) (fun _ hk => hk.elim) (Nat.le_refl _) (Below.refl _ _) (Nat.le_refl _) (by decide) ?_); go_must (intro v1 w1 hN hb hg1 hv; obtain ⟨A1, c1, rfl⟩ := Kd.N_slice hN; have HN1 := Aside0.mk hN; have HB := Aside0.mk hb; clear hN hb hg1 hv))
  go_loopw [5, 7] (fun v5 v6 wr => ∃ (j i : Nat) (A3 : Option Addr) (c3 : Nat), j ≤ M ∧ i = 1 + 2 * j ∧ v6 = .int .i64 i ∧ v5 = .slice A3 j c3 ∧ Aside0 (Kd.N kUse 56 wr W.heap.size (fun b => W.heap.size ≤ b) (.slice A3 j c3) (eachUpto 2 false true xs j)) ∧ Aside0 (Below W.heap.size W wr)) (fun _ v6 _ => n - (intOf v6).toNat)
  case atStart => exact ⟨0, 1, A1, c1, Nat.zero_le _, rfl, rfl, rfl, HN1, HB⟩
  case round =>
    obtain ⟨j, i, A3, c3, hjm, hij, rfl, rfl, HN, HBr⟩ := hrel
    have HIJ := Aside0.mk hij
    by_cases hj : j < M
    · have i0 : (i : Int) < (n : Int) := by omega
      have i1 : (0 : Int) ≤ (i : Int) := by omega
      obtain ⟨ad, hl, rfl, c0⟩ := text_at (Kd.F_below HF.out HBr.out) i (by omega)
      rw [word_get] at c0
      have HY := Aside0.mk (each_succ 2 false true xs j)
      rw [← hij] at HY
      clear hij
      obtain ⟨wd, hwd⟩ : ∃ wd, wd = word xs i := ⟨_, rfl⟩
      rw [← hwd] at c0 HY
      clear hwd
      go_wp2_with ((with_reducible refine gate_builtin (b := .append) (xs := #[.tmp 116, .tmp 122]) rfl ?_); at_builtin; go_must (refine Kd.N_append kUse (w0 := W) W.heap.size rfl (.tmp 116) (.tmp 122) 44 56 (.agg #[.string ⟨#[]⟩, .bool false, .bool false]) 24 rfl Try.underlying44 info56 rfl (Nat.le_add_left _ _) (Nat.le_add_left _ _) (.slice A3 j c3) (eachUpto 2 false true xs j) ⟨wd, false, true⟩ [.string wd, .bool false, .bool true] (fun b => W.heap.size ≤ b) (fun _ => False) ?hs ?hx ?x1 (fun _ h => h.elim) ?x3 HN.out HBr.out HBr.out.size ?x7 ?_); go_must ((case hs => rfl)); go_must ((case hx => rfl)); go_must ((case x1 => exact kUse_FK _ _ ⟨wd, false, true⟩)); go_must ((case x3 => exact fun b hb => Nat.le_trans HBr.out.size hb)); go_must ((case x7 => rw [each_len']; omega)); go_must (intro v6 w6 hN6 hb6 hg6 _; rw [← HY.out] at hN6; obtain ⟨A6, c6, he6⟩ := Kd.N_slice hN6; rw [each_len'] at he6; subst he6; have HN6 := Aside0.mk hN6; have HB6 := Aside0.mk hb6; clear hN6 hb6 hg6))
      go_roundw
      case rel => exact ⟨j + 1, i + 2, A6, c6, by omega, by have := HIJ.out; omega, by go_num, rfl, HN6, HB6⟩
      case measure => simp [intOf]; omega
    · obtain rfl : j = M := by omega
      have i0 : ¬ (i : Int) < (n : Int) := by omega
      clear hij
      go_wp2_with fail
      refine bodyPost_ret (v := .slice A3 j c3) (by simp [results, Try.results46, go_sem]) rfl ?_
      unfold RowSaid
      rw [each_len']
      exact ⟨A3, c3, rfl, by have h := (Kd.N_reads' HN.out).2.1; exact h, ⟨Kd.N_F HN.out⟩, ⟨HBr.out⟩⟩
set_option maxHeartbeats 8000000 in
set_option maxRecDepth 100000 in
theorem key_none (p : Nat) (hlo : 99 ≤ p) (hhi : p < 100) (hpos : ∀ i, i < 41 → (nm.toList == KLITS.getD i []) = (p == i)) (hF : Kd.F Kd.string W ok A n xs) :
    Calls Try.prog 46 #[.string nm, .slice A n cp] W fun e W' => RowSaid kUse ([]) W e W' := by
  have o0 : (nm.toList == [103, 101, 116]) = (p == 0) := hpos 0 (by decide)
  have o1 : (nm.toList == [115, 116, 114, 108, 101, 110]) = (p == 1) := hpos 1 (by decide)
  have o2 : (nm.toList == [108, 108, 101, 110]) = (p == 2) := hpos 2 (by decide)
  have o3 : (nm.toList == [108, 114, 97, 110, 103, 101]) = (p == 3) := hpos 3 (by decide)
  have o4 : (nm.toList == [104, 103, 101, 116]) = (p == 4) := hpos 4 (by decide)
  have o5 : (nm.toList == [104, 108, 101, 110]) = (p == 5) := hpos 5 (by decide)
  have o6 : (nm.toList == [104, 103, 101, 116, 97, 108, 108]) = (p == 6) := hpos 6 (by decide)
  have o7 : (nm.toList == [115, 105, 115, 109, 101, 109, 98, 101, 114]) = (p == 7) := hpos 7 (by decide)
  have o8 : (nm.toList == [115, 109, 101, 109, 98, 101, 114, 115]) = (p == 8) := hpos 8 (by decide)
  have o9 : (nm.toList == [115, 99, 97, 114, 100]) = (p == 9) := hpos 9 (by decide)
  have o10 : (nm.toList == [122, 115, 99, 111, 114, 101]) = (p == 10) := hpos 10 (by decide)
  have o11 : (nm.toList == [122, 114, 97, 110, 103, 101]) = (p == 11) := hpos 11 (by decide)
  have o12 : (nm.toList == [122, 99, 97, 114, 100]) = (p == 12) := hpos 12 (by decide)
  have o13 : (nm.toList == [116, 121, 112, 101]) = (p == 13) := hpos 13 (by decide)
  have o14 : (nm.toList == [116, 116, 108]) = (p == 14) := hpos 14 (by decide)
  have o15 : (nm.toList == [97, 112, 112, 101, 110, 100]) = (p == 15) := hpos 15 (by decide)
  have o16 : (nm.toList == [105, 110, 99, 114, 98, 121]) = (p == 16) := hpos 16 (by decide)
  have o17 : (nm.toList == [105, 110, 99, 114]) = (p == 17) := hpos 17 (by decide)
  have o18 : (nm.toList == [103, 101, 116, 100, 101, 108]) = (p == 18) := hpos 18 (by decide)
  have o19 : (nm.toList == [108, 112, 117, 115, 104]) = (p == 19) := hpos 19 (by decide)
  have o20 : (nm.toList == [114, 112, 117, 115, 104]) = (p == 20) := hpos 20 (by decide)
  have o21 : (nm.toList == [108, 112, 111, 112]) = (p == 21) := hpos 21 (by decide)
  have o22 : (nm.toList == [114, 112, 111, 112]) = (p == 22) := hpos 22 (by decide)
  have o23 : (nm.toList == [104, 115, 101, 116]) = (p == 23) := hpos 23 (by decide)
  have o24 : (nm.toList == [104, 100, 101, 108]) = (p == 24) := hpos 24 (by decide)
  have o25 : (nm.toList == [104, 105, 110, 99, 114, 98, 121]) = (p == 25) := hpos 25 (by decide)
  have o26 : (nm.toList == [115, 97, 100, 100]) = (p == 26) := hpos 26 (by decide)
  have o27 : (nm.toList == [115, 114, 101, 109]) = (p == 27) := hpos 27 (by decide)
  have o28 : (nm.toList == [122, 97, 100, 100]) = (p == 28) := hpos 28 (by decide)
  have o29 : (nm.toList == [122, 114, 101, 109]) = (p == 29) := hpos 29 (by decide)
  have o30 : (nm.toList == [122, 105, 110, 99, 114, 98, 121]) = (p == 30) := hpos 30 (by decide)
  have o31 : (nm.toList == [101, 120, 112, 105, 114, 101]) = (p == 31) := hpos 31 (by decide)
  have o32 : (nm.toList == [112, 101, 114, 115, 105, 115, 116]) = (p == 32) := hpos 32 (by decide)
  have o33 : (nm.toList == [115, 101, 116]) = (p == 33) := hpos 33 (by decide)
  have o34 : (nm.toList == [114, 101, 110, 97, 109, 101]) = (p == 34) := hpos 34 (by decide)
  have o35 : (nm.toList == [115, 109, 111, 118, 101]) = (p == 35) := hpos 35 (by decide)
  have o36 : (nm.toList == [109, 103, 101, 116]) = (p == 36) := hpos 36 (by decide)
  have o37 : (nm.toList == [101, 120, 105, 115, 116, 115]) = (p == 37) := hpos 37 (by decide)
  have o38 : (nm.toList == [119, 97, 116, 99, 104]) = (p == 38) := hpos 38 (by decide)
  have o39 : (nm.toList == [100, 101, 108]) = (p == 39) := hpos 39 (by decide)
  have o40 : (nm.toList == [109, 115, 101, 116]) = (p == 40) := hpos 40 (by decide)
  clear hpos
  clear hF
  obtain rfl : p = 99 := by omega
  simp only [Nat.reduceBEq] at o0 o1 o2 o3 o4 o5 o6 o7 o8 o9 o10 o11 o12 o13 o14 o15 o16 o17 o18 o19 o20 o21 o22 o23 o24 o25 o26 o27 o28 o29 o30 o31 o32 o33 o34 o35 o36 o37 o38 o39 o40
  go_enter Try.func46, Try.ntmps46
  go_wp2_with ((with_reducible refine gate_dst (N := 8) rfl ?_); go_must (refine Kd.N_lit kUse (w0 := W) W.heap.size 56 rfl (N' := 8) rfl (xs := ([] : List UseD)) (inner := []) (ok := fun b => W.heap.size ≤ b) (okp := fun _ => False) (by go_simp; try rfl) (Reps.none _ _) (fun _ hk => hk.elim) (Nat.le_refl _) (Below.refl _ _) (Nat.le_refl _) (by decide) ?_); go_must (intro v1 w1 hN hb hg1 hv; obtain ⟨A1, c1, rfl⟩ := Kd.N_slice hN; have HN1 := Aside0.mk hN; have HB := Aside0.mk hb; clear hN hb hg1 hv))
  (refine bodyPost_ret (v := .slice A1 0 c1) (by simp [results, Try.results46, go_sem]) rfl ?_; unfold RowSaid; exact ⟨A1, c1, rfl, (Kd.N_reads' HN1.out).2.1, ⟨Kd.N_F HN1.out⟩, ⟨HB.out⟩⟩)
end
end Go.Proofs.Ytflnpgfddedahaa.U
