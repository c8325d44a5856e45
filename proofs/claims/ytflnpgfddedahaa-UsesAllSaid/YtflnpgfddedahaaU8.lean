/- uses.Of: a command that needs nothing, and what is no request. -/
import Derived.Test.YtflnpgfddedahaaU7
namespace Go.Proofs.Ytflnpgfddedahaa.U
open Go.RowKit Go.Great Go.Maps Go.Proofs.YtflnpgfddedahaaW.PrintWords
set_option linter.unusedVariables false
set_option linter.unusedSimpArgs false

set_option maxHeartbeats 4000000 in
set_option maxRecDepth 100000 in
theorem of_none (k : Nat) (hk : k < 56) (hkd : kindAt k = none) (A : Option Addr) (n cp : Nat) (xs : List ByteArray) (ok : Nat → Prop) (W : World) (hF : Kd.F Kd.string W ok A n xs) (hs : (word xs 0).size ≤ 140737488351232) (hf : findI (word xs 0) = k) (hfit : fitsB (cmdOf k) n = true) (hn : 1 ≤ n)
    (hms : ((lowS (word xs 0)).toList == [109, 115, 101, 116]) = false) :
    Calls Try.prog 22 #[.slice A n cp] W fun e W' => ∃ v, e = .returned (.tuple #[v, .int .i64 0]) ∧ NeedV W' W.heap.size v k ([]) false false ([]) ∧ Below W.heap.size W W' := by
  obtain ⟨ad, rfl⟩ := some_at hF (by omega)
  obtain ⟨ad0, hl0, e0, c0⟩ := text_at hF 0 (by omega)
  injection e0 with e0
  subst e0
  rw [word_get, show ad.add 0 = ad from by unfold Addr.add; simp] at c0
  have hadl := World.block_lt_of_cell? W _ c0
  have c0' : ∀ o : Obj, (W.alloc o).cell? ad = some (.string (word xs 0)) := fun o => pw_cell_below (below_alloc (Below.refl _ _) o) c0
  have HF := Aside0.mk (Kd.F_bound hF)
  have hxl := Kd.F_len hF
  clear hxl
  obtain ⟨nm, hnm⟩ : ∃ nm, nm = lowS (word xs 0) := ⟨_, rfl⟩
  have hlow : Aside0 (∀ w : World, Calls Try.prog 15 #[.string (word xs 0)] w fun e w' => e = .returned (.string nm) ∧ Below w.heap.size w w') := ⟨fun w => by
    have h := lower_calls (word xs 0) w hs
    rw [hnm]
    exact h⟩
  have FB : Aside0 (∀ w : World, Calls Try.prog 14 #[.string nm] w fun e w' => e = .returned (.tuple #[.int .i64 k, .bool true]) ∧ Below w.heap.size w w') := ⟨fun w => by
    rw [hnm]
    have h := find_calls (lowS (word xs 0)) w (by rw [lowS_size]; exact hs)
    rw [findI_low, hf, decide_eq_true (by omega)] at h
    exact h⟩
  have FT : Aside0 (∀ w : World, Calls Try.prog 16 #[.int .i64 k, .int .i64 n] w fun e w' => e = .returned (.bool true) ∧ Below w.heap.size w w') := ⟨fun w => by
    have h := fits_in k n w hk
    rw [hfit] at h
    exact h⟩
  have i0 : (n : Int) ≠ 0 := by omega
  have i1 : ((n : Int) == 0) = false := by simp; omega
  have i2 : (0 : Int) < (n : Int) := by omega
  have HKN := Aside0.mk (show KALL.lookup nm.data.toList = none from by rw [hnm, name_of _ k hk hf]; exact hkd)
  have hnz : nm.size ≤ maxLen := by rw [hnm, lowS_size]; exact Nat.le_trans hs (by decide)
  have hst := fun (w : World) (a : Addr) (f : Fn) (x y : Array Value) => run_store Try.prog w a (.func f x y) .plain rfl
  have hst2 := fun (w : World) (a : Addr) => run_store Try.prog w a .nilFunc .plain rfl
  rw [← hnm] at hms
  clear hF hs hf hfit hnm
  go_enter Try.func22, Try.ntmps22
  go_wp2_with (first
    | (go_at_call 15; go_must (refine (hlow.out _).mono ?_); rintro e w1 ⟨rfl, hb1⟩; have HB := Aside0.mk (step2 (below_alloc (Below.refl _ _) _) hb1); have X2 := Aside0.mk (blk_below (blk_new W (needB 0 (.slice none 0 0) false false (.slice none 0 0))) hb1); clear hb1)
    | (go_at_call 14; go_must (refine (FB.out _).mono ?_); rintro e w2 ⟨rfl, hb2⟩; have HB := Aside0.mk (step2 HB.out hb2); have X2 := Aside0.mk (blk_below X2.out hb2); clear hb2)
    | (go_at_call 16; go_must (refine (FT.out _).mono ?_); rintro e w3 ⟨rfl, hb3⟩; have hltg : W.heap.size < w3.heap.size := Nat.lt_of_lt_of_le (blk_lt X2.out) hb3.size; have HB := Aside0.mk (step2 HB.out hb3); have X2 := Aside0.mk (blk_below X2.out hb3); clear hb3)
    | (go_at_call 41; go_must (refine (needs_calls _).mono ?_); rintro e w4 ⟨Bm, rfl, HM, hBm, hb4⟩; have XG := Aside0.mk (blk_below (blk_new w3 (needB k (.slice none 0 0) false false (.slice none 0 0))) hb4); have HB := Aside0.mk (step2 (below_alloc HB.out _) hb4); have X2 := Aside0.mk (blk_below (blk_alloc X2.out (needB k (.slice none 0 0) false false (.slice none 0 0))) hb4); obtain ⟨D, ho, hD⟩ := HM.out.out; have HO := Aside0.mk ho; have hDn := hD nm.data.toList; rw [HKN.out] at hDn; have HHAS := Aside0.mk hDn; have HAT : Aside0 (∀ z, D.atKey (.string nm.data.toList) z = z) := ⟨Maps.atKey_of_not_has hDn⟩; have y5 := fun o : Obj => cells5' (blk_alloc XG.out o); have x5 := fun o : Obj => cells5' (blk_alloc X2.out o); clear hb4 ho hD)
    | (at_lookup; go_must (refine wpList_lookup_own_ok _ rfl _ _ 76 rfl 9 74 (string_keyed Try.underlying9) Try.underlying76 heldR (zero74 _) (.held (.agg #[.nilFunc])) [] rfl Bm 46 D rfl HO.out _ _ rfl (WideMaps.keyOf_string_mk Try.underlying9 hnz) ?_); intro v' ps hv; rw [HAT.out] at hv; obtain rfl := held_inj hv; rw [HHAS.out]; clear hv))
  have hw4 := blk_lt X2.out
  obtain ⟨y0, y1, y2, y3, y4, yf⟩ := y5 (.cells #[.nilFunc] 74)
  obtain ⟨x0, x1, x2, x3, x4, xf⟩ := x5 (.cells #[.nilFunc] 74)
  refine bodyPost_ret (v := .tuple #[.agg #[.int .i64 k, .slice none 0 0, .bool false, .bool false, .slice none 0 0], .int .i64 0]) (by simp [results, Try.results22, go_sem, x0, x1, x2, x3, x4, y0, y1, y2, y3, y4]) rfl ⟨_, rfl, ⟨none, 0, none, 0, rfl, Kd.F_nil _ _ _, Nat.le_refl _, Kd.F_nil _ _ _, Nat.le_refl _⟩, ?_⟩
  exact five_B (below_alloc HB.out _) (Nat.le_refl _) _ _ _ _ _

theorem shape_zero : (.agg #[.int .i64 0, .slice none 0 0, .bool false, .bool false, .slice none 0 0] : Value) = .agg #[.int .i64 ((0 : Int)), .slice none ([] : List UseD).length 0, .bool false, .bool false, .slice none ([] : List ByteArray).length 0] := rfl
theorem NeedV.zero (W : World) (lo : Nat) : NeedV W lo (.agg #[.int .i64 0, .slice none 0 0, .bool false, .bool false, .slice none 0 0]) 0 [] false false [] :=
  ⟨none, 0, none, 0, rfl, Kd.F_nil _ _ _, Nat.le_refl _, Kd.F_nil _ _ _, Nat.le_refl _⟩
/-- No words. -/
theorem of_empty (A : Option Addr) (cp : Nat) (W : World) : Calls Try.prog 22 #[.slice A 0 cp] W fun e W' => ∃ v, e = .returned (.tuple #[v, .int .i64 2]) ∧ NeedV W' W.heap.size v 0 [] false false [] ∧ Below W.heap.size W W' := by
  go_enter Try.func22, Try.ntmps22
  go_wp2
  refine bodyPost_ret (v := .tuple #[.agg #[.int .i64 0, .slice none 0 0, .bool false, .bool false, .slice none 0 0], .int .i64 2]) (by simp [results, Try.results22, go_sem]) rfl ⟨_, rfl, NeedV.zero _ _, ?_⟩
  exact below_alloc (Below.refl _ _) _
set_option maxHeartbeats 1000000 in
set_option maxRecDepth 100000 in
/-- No command. -/
theorem of_unknown (A : Option Addr) (n cp : Nat) (xs : List ByteArray) (ok : Nat → Prop) (W : World) (hF : Kd.F Kd.string W ok A n xs) (hs : (word xs 0).size ≤ 140737488351232) (hf : findI (word xs 0) = -1) (hn : 1 ≤ n) :
    Calls Try.prog 22 #[.slice A n cp] W fun e W' => ∃ v, e = .returned (.tuple #[v, .int .i64 2]) ∧ NeedV W' W.heap.size v 0 [] false false [] ∧ Below W.heap.size W W' := by
  obtain ⟨ad, rfl⟩ := some_at hF (by omega)
  obtain ⟨ad0, hl0, e0, c0⟩ := text_at hF 0 (by omega)
  injection e0 with e0
  subst e0
  rw [word_get, show ad.add 0 = ad from by unfold Addr.add; simp] at c0
  have hadl := World.block_lt_of_cell? W _ c0
  have c0' : ∀ o : Obj, (W.alloc o).cell? ad = some (.string (word xs 0)) := fun o => pw_cell_below (below_alloc (Below.refl _ _) o) c0
  obtain ⟨nm, hnm⟩ : ∃ nm, nm = lowS (word xs 0) := ⟨_, rfl⟩
  have hlow : Aside0 (∀ w : World, Calls Try.prog 15 #[.string (word xs 0)] w fun e w' => e = .returned (.string nm) ∧ Below w.heap.size w w') := ⟨fun w => by
    have h := lower_calls (word xs 0) w hs
    rw [hnm]
    exact h⟩
  have FB : Aside0 (∀ w : World, Calls Try.prog 14 #[.string nm] w fun e w' => e = .returned (.tuple #[.int .i64 (-1), .bool false]) ∧ Below w.heap.size w w') := ⟨fun w => by
    rw [hnm]
    have h := find_calls (lowS (word xs 0)) w (by rw [lowS_size]; exact hs)
    rw [findI_low, hf, decide_eq_false (by omega)] at h
    exact h⟩
  have i0 : (n : Int) ≠ 0 := by omega
  have i1 : ((n : Int) == 0) = false := by simp; omega
  have i2 : (0 : Int) < (n : Int) := by omega
  clear hF hs hf hnm
  go_enter Try.func22, Try.ntmps22
  go_wp2_with (first
    | (go_at_call 15; go_must (refine (hlow.out _).mono ?_); rintro e w1 ⟨rfl, hb1⟩; have HB := Aside0.mk (step2 (below_alloc (Below.refl _ _) _) hb1); have X2 := Aside0.mk (blk_below (blk_new W (needB 0 (.slice none 0 0) false false (.slice none 0 0))) hb1); clear hb1)
    | (go_at_call 14; go_must (refine (FB.out _).mono ?_); rintro e w2 ⟨rfl, hb2⟩; have HB := Aside0.mk (step2 HB.out hb2); have X2 := Aside0.mk (blk_below X2.out hb2); obtain ⟨x0, x1, x2, x3, x4, xf⟩ := cells5' X2.out; clear hb2))
  refine bodyPost_ret (v := .tuple #[.agg #[.int .i64 0, .slice none 0 0, .bool false, .bool false, .slice none 0 0], .int .i64 2]) (by simp [results, Try.results22, go_sem, x0, x1, x2, x3, x4]) rfl ⟨_, rfl, NeedV.zero _ _, ?_⟩
  exact five_B HB.out (Nat.le_refl _) _ _ _ _ _
set_option maxHeartbeats 1000000 in
set_option maxRecDepth 100000 in
/-- Words that do not fit, or pairs that are none. -/
theorem of_unfit (k : Nat) (hk : k < 56) (A : Option Addr) (n cp : Nat) (xs : List ByteArray) (ok : Nat → Prop) (W : World) (hF : Kd.F Kd.string W ok A n xs) (hs : (word xs 0).size ≤ 140737488351232) (hf : findI (word xs 0) = k) (hn : 1 ≤ n)
    (hfit : fitsB (cmdOf k) n = false ∨ (fitsB (cmdOf k) n = true ∧ ((lowS (word xs 0)).toList == [109, 115, 101, 116]) = true ∧ n % 2 = 0)) :
    Calls Try.prog 22 #[.slice A n cp] W fun e W' => ∃ v, e = .returned (.tuple #[v, .int .i64 1]) ∧ NeedV W' W.heap.size v 0 [] false false [] ∧ Below W.heap.size W W' := by
  obtain ⟨ad, rfl⟩ := some_at hF (by omega)
  obtain ⟨ad0, hl0, e0, c0⟩ := text_at hF 0 (by omega)
  injection e0 with e0
  subst e0
  rw [word_get, show ad.add 0 = ad from by unfold Addr.add; simp] at c0
  have hadl := World.block_lt_of_cell? W _ c0
  have c0' : ∀ o : Obj, (W.alloc o).cell? ad = some (.string (word xs 0)) := fun o => pw_cell_below (below_alloc (Below.refl _ _) o) c0
  obtain ⟨nm, hnm⟩ : ∃ nm, nm = lowS (word xs 0) := ⟨_, rfl⟩
  have hlow : Aside0 (∀ w : World, Calls Try.prog 15 #[.string (word xs 0)] w fun e w' => e = .returned (.string nm) ∧ Below w.heap.size w w') := ⟨fun w => by
    have h := lower_calls (word xs 0) w hs
    rw [hnm]
    exact h⟩
  have FB : Aside0 (∀ w : World, Calls Try.prog 14 #[.string nm] w fun e w' => e = .returned (.tuple #[.int .i64 k, .bool true]) ∧ Below w.heap.size w w') := ⟨fun w => by
    rw [hnm]
    have h := find_calls (lowS (word xs 0)) w (by rw [lowS_size]; exact hs)
    rw [findI_low, hf, decide_eq_true (by omega)] at h
    exact h⟩
  obtain ⟨fb, hfb⟩ : ∃ fb, fb = fitsB (cmdOf k) n := ⟨_, rfl⟩
  have FT : Aside0 (∀ w : World, Calls Try.prog 16 #[.int .i64 k, .int .i64 n] w fun e w' => e = .returned (.bool fb) ∧ Below w.heap.size w w') := ⟨fun w => by
    rw [hfb]
    exact fits_in k n w hk⟩
  have i0 : (n : Int) ≠ 0 := by omega
  have i1 : ((n : Int) == 0) = false := by simp; omega
  have i2 : (0 : Int) < (n : Int) := by omega
  rw [← hfb, ← hnm] at hfit
  clear hF hs hf hnm hfb
  rcases hfit with rfl | ⟨rfl, hms, hodd⟩
  · go_enter Try.func22, Try.ntmps22
    go_wp2_with (first
      | (go_at_call 15; go_must (refine (hlow.out _).mono ?_); rintro e w1 ⟨rfl, hb1⟩; have HB := Aside0.mk (step2 (below_alloc (Below.refl _ _) _) hb1); have X2 := Aside0.mk (blk_below (blk_new W (needB 0 (.slice none 0 0) false false (.slice none 0 0))) hb1); clear hb1)
      | (go_at_call 14; go_must (refine (FB.out _).mono ?_); rintro e w2 ⟨rfl, hb2⟩; have HB := Aside0.mk (step2 HB.out hb2); have X2 := Aside0.mk (blk_below X2.out hb2); clear hb2)
      | (go_at_call 16; go_must (refine (FT.out _).mono ?_); rintro e w3 ⟨rfl, hb3⟩; have HB := Aside0.mk (step2 HB.out hb3); have X2 := Aside0.mk (blk_below X2.out hb3); obtain ⟨x0, x1, x2, x3, x4, xf⟩ := cells5' X2.out; clear hb3))
    refine bodyPost_ret (v := .tuple #[.agg #[.int .i64 0, .slice none 0 0, .bool false, .bool false, .slice none 0 0], .int .i64 1]) (by simp [results, Try.results22, go_sem, x0, x1, x2, x3, x4]) rfl ⟨_, rfl, NeedV.zero _ _, ?_⟩
    exact five_B HB.out (Nat.le_refl _) _ _ _ _ _
  · have i4 : ((n : Int) % 2 == 0) = true := by simp; omega
    clear hodd
    go_enter Try.func22, Try.ntmps22
    go_wp2_with (first
      | (go_at_call 15; go_must (refine (hlow.out _).mono ?_); rintro e w1 ⟨rfl, hb1⟩; have HB := Aside0.mk (step2 (below_alloc (Below.refl _ _) _) hb1); have X2 := Aside0.mk (blk_below (blk_new W (needB 0 (.slice none 0 0) false false (.slice none 0 0))) hb1); clear hb1)
      | (go_at_call 14; go_must (refine (FB.out _).mono ?_); rintro e w2 ⟨rfl, hb2⟩; have HB := Aside0.mk (step2 HB.out hb2); have X2 := Aside0.mk (blk_below X2.out hb2); clear hb2)
      | (go_at_call 16; go_must (refine (FT.out _).mono ?_); rintro e w3 ⟨rfl, hb3⟩; have HB := Aside0.mk (step2 HB.out hb3); have X2 := Aside0.mk (blk_below X2.out hb3); obtain ⟨x0, x1, x2, x3, x4, xf⟩ := cells5' X2.out; clear hb3))
    refine bodyPost_ret (v := .tuple #[.agg #[.int .i64 0, .slice none 0 0, .bool false, .bool false, .slice none 0 0], .int .i64 1]) (by simp [results, Try.results22, go_sem, x0, x1, x2, x3, x4]) rfl ⟨_, rfl, NeedV.zero _ _, ?_⟩
    exact five_B HB.out (Nat.le_refl _) _ _ _ _ _
end Go.Proofs.Ytflnpgfddedahaa.U
