/- The reference's Of: what a request needs. -/
import Derived.Test.YtflnpgfddedahaaS7
import Derived.Test.YtflnpgfddedahaaS2
import Derived.Test.YtflnpgfddedahaaR2
import Derived.Test.YtflnpgfddedahaaV2
namespace Go.Proofs.Ytflnpgfddedahaa.U
open Go.RowKit Go.Great Go.Proofs.YtflnpgfddedahaaW.PrintWords
set_option linter.unusedVariables false
set_option linter.unusedSimpArgs false
theorem F_zero {α : Type} (d : Kd α) (W : World) (ok : Nat → Prop) : Kd.F d W ok none 0 ([] : List α) := fun W' _ => ⟨rfl, by simp, fun h => absurd h (Nat.lt_irrefl 0)⟩
theorem of_zero {xs : List ByteArray} {err : Int} (h : ofS xs = (zeroNeed, err)) (W W' : World) (hb : Below W.heap.size W W') : OfSaid xs W (.returned (.tuple #[.agg #[.int .i64 0, .slice none 0 0, .bool false, .bool false, .slice none 0 0], .int .i64 err])) W' := by
  unfold OfSaid
  rw [h]
  exact ⟨none, 0, none, 0, rfl, F_zero _ _ _, Nat.le_refl _, F_zero _ _ _, Nat.le_refl _, hb⟩
section
variable (A : Option Addr) (n cp : Nat) (xs : List ByteArray) (ok : Nat → Prop) (W : World)
set_option maxHeartbeats 4000000 in
set_option maxRecDepth 100000 in
theorem refOf_empty (hn : n = 0) (hl : xs.length = n) : Calls Try.prog 30 #[.slice A n cp] W fun e W' => OfSaid xs W e W' := by
  have HZ := Aside0.mk (show ofS xs = (zeroNeed, 2) from by unfold ofS; rw [if_pos (by omega)])
  have i0 : ((n : Int) == 0) = true := by simp; omega
  clear hn hl
  go_enter Try.func30, Try.ntmps30
  have HX := Aside0.mk (blk_new W (needB 0 (.slice none 0 0) false false (.slice none 0 0)))
  obtain ⟨x0, x1, x2, x3, x4, xf⟩ := cells5' HX.out
  go_wp2_with fail
  refine bodyPost_ret (v := .tuple #[.agg #[.int .i64 0, .slice none 0 0, .bool false, .bool false, .slice none 0 0], .int .i64 2]) (by simp [results, Try.results30, go_sem, x0, x1, x2, x3, x4]) rfl ?_
  exact of_zero HZ.out _ _ (below_alloc (Below.refl _ _) _)
set_option maxHeartbeats 4000000 in
set_option maxRecDepth 100000 in
theorem refOf_unknown (hn : 1 ≤ n) (hF : Kd.F Kd.string W ok A n xs) (hs : (word xs 0).size ≤ 140737488351232) (hf : findI (word xs 0) = -1) : Calls Try.prog 30 #[.slice A n cp] W fun e W' => OfSaid xs W e W' := by
  have hl := Kd.F_len hF
  have HZ := Aside0.mk (show ofS xs = (zeroNeed, 2) from by unfold ofS; rw [if_neg (by omega), idOf_none hf])
  have i0 : ((n : Int) == 0) = false := by simp; omega
  have i1 : (0 : Int) < (n : Int) := by omega
  obtain ⟨ad, rfl⟩ := some_at hF (by omega)
  have c1 := word_cell hF 0 (by omega)
  rw [show ad.add 0 = ad from by unfold Addr.add; simp] at c1
  have FD : Aside0 (∀ w : World, Calls Try.prog 45 #[.string (word xs 0)] w fun e w' => e = .returned (.tuple #[.int .i64 (-1), .bool false]) ∧ Below w.heap.size w w') := ⟨fun w => by have h := refFind_calls (word xs 0) w hs; rw [hf] at h; exact h⟩
  generalize word xs 0 = wd at *
  clear hs hf hl hF
  have HB := Aside0.mk (below_alloc (Below.refl W.heap.size W) (needB 0 (.slice none 0 0) false false (.slice none 0 0)))
  have HX := Aside0.mk (blk_new W (needB 0 (.slice none 0 0) false false (.slice none 0 0)))
  have c1 := pw_cell_below HB.out c1
  obtain ⟨x0, x1, x2, x3, x4, xf⟩ := cells5' HX.out
  go_enter Try.func30, Try.ntmps30
  go_wp2_with (go_at_call 45; go_must (refine (FD.out _).mono ?_); rintro e w1 ⟨rfl, hb1⟩; replace HB := Aside0.mk (step2 HB.out hb1); replace HX := Aside0.mk (blk_below HX.out hb1); clear hb1 c1 x0 x1 x2 x3 x4 xf; obtain ⟨x0, x1, x2, x3, x4, xf⟩ := cells5' HX.out)
  refine bodyPost_ret (v := .tuple #[.agg #[.int .i64 0, .slice none 0 0, .bool false, .bool false, .slice none 0 0], .int .i64 2]) (by simp [results, Try.results30, go_sem, x0, x1, x2, x3, x4]) rfl ?_
  exact of_zero HZ.out _ _ (five_B HB.out (Nat.le_refl _) _ _ _ _ _)
theorem of_names : ∀ k : Nat, k < 56 → ((cmdOf k).name.data.toList == [107, 101, 121, 115]) = (k == 40) ∧ ((cmdOf k).name.data.toList == [100, 98, 115, 105, 122, 101]) = (k == 41) ∧ ((cmdOf k).name.data.toList == [102, 108, 117, 115, 104, 97, 108, 108]) = (k == 42) ∧ ((cmdOf k).name.data.toList == [115, 117, 98, 115, 99, 114, 105, 98, 101]) = (k == 52) ∧ ((cmdOf k).name.data.toList == [112, 117, 98, 108, 105, 115, 104]) = (k == 54) := by decide +kernel
theorem name_small : ∀ k : Nat, k < 56 → (cmdOf k).name.size ≤ 20 := by decide +kernel
def plainK (k : Nat) : Bool := k == 40 || k == 41 || k == 42 || k == 52 || k == 54 || (match kindAt k with | none => true | some (.one _ _) => true | some (.each _ _ _) => true | some (.fn f) => f == 49 || f == 52 || f == 53)
theorem plain_all : ∀ k : Nat, k < 56 → plainK k = true := by decide +kernel
theorem need_plain (k : Nat) (hk : k < 56) (xs : List ByteArray) (h : k ≠ 40 ∧ k ≠ 41 ∧ k ≠ 42 ∧ k ≠ 52 ∧ k ≠ 54) : needOf k xs = ⟨k, (needOf k xs).keys, false, false, []⟩ := by
  have hp := plain_all k hk
  unfold plainK at hp
  simp only [Bool.or_eq_true, beq_iff_eq, h.1, h.2.1, h.2.2.1, h.2.2.2.1, h.2.2.2.2, false_or] at hp
  unfold needOf
  generalize kindAt k = o at *
  cases o with
  | none => rfl
  | some t =>
    cases t with
    | one r w => rfl
    | each s r w => by_cases hs : s = 2 <;> simp [hs]
    | fn f =>
      simp only [Bool.or_eq_true, beq_iff_eq] at hp
      rcases hp with (rfl | rfl) | rfl <;> rfl
theorem lowS_name (t : ByteArray) (k : Nat) (hk : k < 56) (h : findI t = k) : lowS t = (cmdOf k).name := by
  have h1 := name_of t k hk h
  have h2 := Array.toList_inj.1 h1
  cases h3 : lowS t
  cases h4 : (cmdOf k).name
  rw [h3, h4] at h2
  simpa using h2
set_option maxHeartbeats 8000000 in
set_option maxRecDepth 100000 in
theorem refOf_bad (k : Nat) (hk : k < 56) (hn : 1 ≤ n) (hF : Kd.F Kd.string W ok A n xs) (hs : (word xs 0).size ≤ 140737488351232) (hf : findI (word xs 0) = k) (hbad : ¬ (fitsB (cmdOf k) (n : Int) = true ∧ ¬ (k = 8 ∧ n % 2 = 0))) : Calls Try.prog 30 #[.slice A n cp] W fun e W' => OfSaid xs W e W' := by
  have hl := Kd.F_len hF
  have i0 : ((n : Int) == 0) = false := by simp; omega
  have i1 : (0 : Int) < (n : Int) := by omega
  obtain ⟨ad, rfl⟩ := some_at hF (by omega)
  have HF := Aside0.mk hF
  have c1 := word_cell hF 0 (by omega)
  rw [show ad.add 0 = ad from by unfold Addr.add; simp] at c1
  have FD : Aside0 (∀ w : World, Calls Try.prog 45 #[.string (word xs 0)] w fun e w' => e = .returned (.tuple #[.int .i64 k, .bool true]) ∧ Below w.heap.size w w') := ⟨fun w => by
    have h := refFind_calls (word xs 0) w hs
    rw [hf, show decide ((0 : Int) ≤ (k : Int)) = true from by simp] at h
    exact h⟩
  have LW : Aside0 (∀ w : World, Calls Try.prog 21 #[.string (word xs 0)] w fun e w' => e = .returned (.string (cmdOf k).name) ∧ Below w.heap.size w w') := ⟨fun w => by
    have h := refLower_calls (word xs 0) w hs
    rw [lowS_name _ k hk hf] at h
    exact h⟩
  have h8n : ((cmdOf k).name.toList == [109, 115, 101, 116]) = (k == 8) := by rw [ByteArray.toList_eq]; exact names_mset k hk
  have HZ := Aside0.mk (show ofS xs = (zeroNeed, 1) from by unfold ofS; rw [if_neg (by omega), idOf_some hf]; show (if _ then _ else _) = _; rw [hl, if_neg hbad])
  cases hft : fitsB (cmdOf k) (n : Int)
  all_goals
    have FT : Aside0 (∀ w : World, Calls Try.prog 27 #[.int .i64 k, .int .i64 n] w fun e w' => e = .returned (.bool (fitsB (cmdOf k) (n : Int))) ∧ Below w.heap.size w w') := ⟨fun w => refFits_in k (n : Int) w hk (by omega)⟩
    rw [hft] at FT
    first
      | (have hk8 : k = 8 ∧ n % 2 = 0 := (by by_cases h : k = 8 ∧ n % 2 = 0; exact h; exact absurd ⟨hft, h⟩ hbad); have b1 : ((cmdOf k).name.toList == [109, 115, 101, 116]) = true := (by rw [h8n, hk8.1]; rfl); have b2 : ((n : Int) % 2 == 0) = true := (by simp; omega); clear h8n hk8)
      | (clear h8n)
    generalize (cmdOf k).name = nm at *
    generalize word xs 0 = wd at *
    clear hs hf hl hF hbad hft hk
    have HB := Aside0.mk (below_alloc (Below.refl W.heap.size W) (needB 0 (.slice none 0 0) false false (.slice none 0 0)))
    have HX := Aside0.mk (blk_new W (needB 0 (.slice none 0 0) false false (.slice none 0 0)))
    replace c1 := pw_cell_below HB.out c1
    obtain ⟨x0, x1, x2, x3, x4, xf⟩ := cells5' HX.out
    go_enter Try.func30, Try.ntmps30
    go_wp2_with (first
      | (go_at_call 45; go_must (refine (FD.out _).mono ?_); rintro e w1 ⟨rfl, hb1⟩; replace HB := Aside0.mk (step2 HB.out hb1); replace HX := Aside0.mk (blk_below HX.out hb1); replace c1 := pw_cell_below hb1 c1; clear hb1 x0 x1 x2 x3 x4 xf; obtain ⟨x0, x1, x2, x3, x4, xf⟩ := cells5' HX.out)
      | (go_at_call 27; go_must (refine (FT.out _).mono ?_); rintro e w1 ⟨rfl, hb1⟩; replace HB := Aside0.mk (step2 HB.out hb1); replace HX := Aside0.mk (blk_below HX.out hb1); replace c1 := pw_cell_below hb1 c1; clear hb1 x0 x1 x2 x3 x4 xf; obtain ⟨x0, x1, x2, x3, x4, xf⟩ := cells5' HX.out)
      | (go_at_call 21; go_must (refine (LW.out _).mono ?_); rintro e w1 ⟨rfl, hb1⟩; replace HB := Aside0.mk (step2 HB.out hb1); replace HX := Aside0.mk (blk_below HX.out hb1); replace c1 := pw_cell_below hb1 c1; clear hb1 x0 x1 x2 x3 x4 xf; obtain ⟨x0, x1, x2, x3, x4, xf⟩ := cells5' HX.out))
    refine bodyPost_ret (v := .tuple #[.agg #[.int .i64 0, .slice none 0 0, .bool false, .bool false, .slice none 0 0], .int .i64 1]) (by simp [results, Try.results30, go_sem, x0, x1, x2, x3, x4]) rfl ?_
    exact of_zero HZ.out _ _ (five_B HB.out (Nat.le_refl _) _ _ _ _ _)
set_option maxHeartbeats 8000000 in
set_option maxRecDepth 100000 in
theorem refOf_plain (k : Nat) (hk : k < 56) (hn : 1 ≤ n) (hF : Kd.F Kd.string W ok A n xs) (hs : (word xs 0).size ≤ 140737488351232) (hf : findI (word xs 0) = k) (hfit : fitsB (cmdOf k) (n : Int) = true) (h8 : k = 8 → n % 2 = 1) (hn6 : n ≤ 1000000) (hcp : n ≤ cp) (hc : k ≠ 40 ∧ k ≠ 41 ∧ k ≠ 42 ∧ k ≠ 52 ∧ k ≠ 54) : Calls Try.prog 30 #[.slice A n cp] W fun e W' => OfSaid xs W e W' := by
  have hl := Kd.F_len hF
  have i0 : ((n : Int) == 0) = false := by simp; omega
  have i1 : (0 : Int) < (n : Int) := by omega
  obtain ⟨ad, rfl⟩ := some_at hF (by omega)
  have HF := Aside0.mk hF
  have c1 := word_cell hF 0 (by omega)
  rw [show ad.add 0 = ad from by unfold Addr.add; simp] at c1
  have FD : Aside0 (∀ w : World, Calls Try.prog 45 #[.string (word xs 0)] w fun e w' => e = .returned (.tuple #[.int .i64 k, .bool true]) ∧ Below w.heap.size w w') := ⟨fun w => by
    have h := refFind_calls (word xs 0) w hs
    rw [hf, show decide ((0 : Int) ≤ (k : Int)) = true from by simp] at h
    exact h⟩
  have LW : Aside0 (∀ w : World, Calls Try.prog 21 #[.string (word xs 0)] w fun e w' => e = .returned (.string (cmdOf k).name) ∧ Below w.heap.size w w') := ⟨fun w => by
    have h := refLower_calls (word xs 0) w hs
    rw [lowS_name _ k hk hf] at h
    exact h⟩
  have h8n : ((cmdOf k).name.toList == [109, 115, 101, 116]) = (k == 8) := by rw [ByteArray.toList_eq]; exact names_mset k hk
  have e40 : ((cmdOf k).name.toList == [107, 101, 121, 115]) = false := by rw [ByteArray.toList_eq, (of_names k hk).1]; simp; omega
  have e41 : ((cmdOf k).name.toList == [100, 98, 115, 105, 122, 101]) = false := by rw [ByteArray.toList_eq, (of_names k hk).2.1]; simp; omega
  have e42 : ((cmdOf k).name.toList == [102, 108, 117, 115, 104, 97, 108, 108]) = false := by rw [ByteArray.toList_eq, (of_names k hk).2.2.1]; simp; omega
  have e52 : ((cmdOf k).name.toList == [115, 117, 98, 115, 99, 114, 105, 98, 101]) = false := by rw [ByteArray.toList_eq, (of_names k hk).2.2.2.1]; simp; omega
  have e54 : ((cmdOf k).name.toList == [112, 117, 98, 108, 105, 115, 104]) = false := by rw [ByteArray.toList_eq, (of_names k hk).2.2.2.2]; simp; omega
  have hnd := need_plain k hk xs hc
  have HNE : Aside0 (ofS xs = (⟨k, (needOf k xs).keys, false, false, []⟩, 0)) := ⟨by
    unfold ofS
    rw [if_neg (by omega), idOf_some hf]
    show (if _ then _ else _) = _
    rw [hl, if_pos ⟨hfit, fun h => by have := h8 h.1; omega⟩]
    exact congrArg (fun x => (x, (0 : Int))) hnd⟩
  have KC : Aside0 (∀ w : World, Below W.heap.size W w → Calls Try.prog 46 #[.string (cmdOf k).name, .slice (some ad) n cp] w fun e W' => RowSaid kUse (needOf k xs).keys w e W') := ⟨fun w hb => keys_calls k hk (some ad) n cp xs ok w (Kd.F_below hF hb) hfit h8 hn6 hn⟩
  have FT : Aside0 (∀ w : World, Calls Try.prog 27 #[.int .i64 k, .int .i64 n] w fun e w' => e = .returned (.bool true) ∧ Below w.heap.size w w') := ⟨fun w => by have h := refFits_in k (n : Int) w hk (by omega); rw [hfit] at h; exact h⟩
  obtain ⟨b8, hb8⟩ : ∃ b8 : Bool, b8 = (k == 8) := ⟨_, rfl⟩
  have b2 : b8 = true → ((n : Int) % 2 == 0) = false := fun h => by have h9 : k = 8 := (by rw [hb8] at h; simpa using h); have := h8 h9; simp; omega
  rw [← hb8] at h8n
  generalize (cmdOf k).name = nm at *
  generalize word xs 0 = wd at *
  generalize (needOf k xs).keys = ks at *
  clear hs hf hF hfit hk h8 hb8 hnd
  cases b8
  all_goals
    try replace b2 := b2 rfl
    have HB := Aside0.mk (below_alloc (Below.refl W.heap.size W) (needB 0 (.slice none 0 0) false false (.slice none 0 0)))
    have HX := Aside0.mk (blk_new W (needB 0 (.slice none 0 0) false false (.slice none 0 0)))
    replace c1 := pw_cell_below HB.out c1
    obtain ⟨x0, x1, x2, x3, x4, xf⟩ := cells5' HX.out
    go_enter Try.func30, Try.ntmps30
    go_wp2_with (first
      | (go_at_call 45; go_must (refine (FD.out _).mono ?_); rintro e w1 ⟨rfl, hb1⟩; replace HB := Aside0.mk (step2 HB.out hb1); replace HX := Aside0.mk (blk_below HX.out hb1); replace c1 := pw_cell_below hb1 c1; clear hb1 x0 x1 x2 x3 x4 xf; obtain ⟨x0, x1, x2, x3, x4, xf⟩ := cells5' HX.out)
      | (go_at_call 27; go_must (refine (FT.out _).mono ?_); rintro e w1 ⟨rfl, hb1⟩; replace HB := Aside0.mk (step2 HB.out hb1); replace HX := Aside0.mk (blk_below HX.out hb1); replace c1 := pw_cell_below hb1 c1; clear hb1 x0 x1 x2 x3 x4 xf; obtain ⟨x0, x1, x2, x3, x4, xf⟩ := cells5' HX.out)
      | (go_at_call 21; go_must (refine (LW.out _).mono ?_); rintro e w1 ⟨rfl, hb1⟩; replace HB := Aside0.mk (step2 HB.out hb1); replace HX := Aside0.mk (blk_below HX.out hb1); replace c1 := pw_cell_below hb1 c1; clear hb1 x0 x1 x2 x3 x4 xf; obtain ⟨x0, x1, x2, x3, x4, xf⟩ := cells5' HX.out)
      | (go_at_call 46; go_must (refine (KC.out _ HB.out).mono ?_); rintro e w1 h1; go_must (unfold RowSaid at h1; obtain ⟨A1, k1, rfl, hk1, HK1, HB1⟩ := h1; have hgs := HB.out.size; have hlt := blk_lt HX.out; have hb1 := HB1.out; replace HB := Aside0.mk (step2 HB.out hb1); replace HX := Aside0.mk (blk_below HX.out hb1); replace c1 := pw_cell_below hb1 c1; clear hb1 x0 x1 x2 x3 x4 xf; obtain ⟨x0, x1, x2, x3, x4, xf⟩ := cells5' (blk_alloc HX.out (needB k (.slice A1 ks.length k1) false false (.slice none 0 0))))))
    refine bodyPost_ret (v := .tuple #[.agg #[.int .i64 k, .slice A1 ks.length k1, .bool false, .bool false, .slice none 0 0], .int .i64 0]) (by simp [results, Try.results30, go_sem, x0, x1, x2, x3, x4]) rfl ?_
    unfold OfSaid
    rw [HNE.out]
    exact ⟨A1, k1, none, 0, rfl, Kd.F_mono (five_F (g := W.heap.size) (Kd.F_alloc HK1.out (needB k (.slice A1 ks.length k1) false false (.slice none 0 0))) (fun b hb => by omega) _ _ _ _ _) (fun b hb => by omega), hk1, F_zero _ _ _, Nat.le_refl _, five_B (below_alloc HB.out (needB k (.slice A1 ks.length k1) false false (.slice none 0 0))) (Nat.le_refl _) _ _ _ _ _⟩
end
end Go.Proofs.Ytflnpgfddedahaa.U
