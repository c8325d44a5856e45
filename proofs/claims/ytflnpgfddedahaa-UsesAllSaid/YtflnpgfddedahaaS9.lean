/- The reference's Of: keys, dbsize, flushall, subscribe, publish. -/
import Derived.Test.YtflnpgfddedahaaS8
namespace Go.Proofs.Ytflnpgfddedahaa.U
open Go.RowKit Go.Great Go.Proofs.YtflnpgfddedahaaW.PrintWords
set_option linter.unusedVariables false
set_option linter.unusedSimpArgs false
section
variable (A : Option Addr) (n cp : Nat) (xs : List ByteArray) (ok : Nat → Prop) (W : World)
set_option maxHeartbeats 8000000 in
set_option maxRecDepth 100000 in
theorem refOf_keys (k : Nat) (hk : k < 56) (hn : 1 ≤ n) (hF : Kd.F Kd.string W ok A n xs) (hs : (word xs 0).size ≤ 140737488351232) (hf : findI (word xs 0) = k) (hfit : fitsB (cmdOf k) (n : Int) = true) (h8 : k = 8 → n % 2 = 1) (hn6 : n ≤ 1000000) (hcp : n ≤ cp) (hc : k = 40) : Calls Try.prog 30 #[.slice A n cp] W fun e W' => OfSaid xs W e W' := by
  have hl := Kd.F_len hF
  have i0 : ((n : Int) == 0) = false := by simp; omega
  have i1 : (0 : Int) < (n : Int) := by omega
  obtain ⟨ad, rfl⟩ := some_at hF (by omega)
  have HF := Aside0.mk hF
  have c1 := word_cell hF 0 (by omega)
  rw [show ad.add 0 = ad from by unfold Addr.add; simp] at c1
  have FD : Aside0 (∀ w : World, Calls Try.prog 45 #[.string (word xs 0)] w fun e w' => e = .returned (.tuple #[.int .i64 k, .bool true]) ∧ Below w.heap.size w w') := ⟨fun w => by
    have h := refFind_calls (word xs 0) w hs
    rw [hf, show decide ((0 : Int) ≤ (k : Int)) = true from by simp] at h
    exact h⟩
  have LW : Aside0 (∀ w : World, Calls Try.prog 21 #[.string (word xs 0)] w fun e w' => e = .returned (.string (cmdOf k).name) ∧ Below w.heap.size w w') := ⟨fun w => by
    have h := refLower_calls (word xs 0) w hs
    rw [lowS_name _ k hk hf] at h
    exact h⟩
  have h8n : ((cmdOf k).name.toList == [109, 115, 101, 116]) = (k == 8) := by rw [ByteArray.toList_eq]; exact names_mset k hk
  have e40 : ((cmdOf k).name.toList == [107, 101, 121, 115]) = true := by rw [ByteArray.toList_eq, (of_names k hk).1]; simp [hc]
  have e41 : ((cmdOf k).name.toList == [100, 98, 115, 105, 122, 101]) = false := by rw [ByteArray.toList_eq, (of_names k hk).2.1]; simp [hc]
  have e42 : ((cmdOf k).name.toList == [102, 108, 117, 115, 104, 97, 108, 108]) = false := by rw [ByteArray.toList_eq, (of_names k hk).2.2.1]; simp [hc]
  have e52 : ((cmdOf k).name.toList == [115, 117, 98, 115, 99, 114, 105, 98, 101]) = false := by rw [ByteArray.toList_eq, (of_names k hk).2.2.2.1]; simp [hc]
  have e54 : ((cmdOf k).name.toList == [112, 117, 98, 108, 105, 115, 104]) = false := by rw [ByteArray.toList_eq, (of_names k hk).2.2.2.2]; simp [hc]
  have hnd : needOf k xs = ⟨k, (needOf k xs).keys, true, false, []⟩ := by subst hc; unfold needOf; rw [show kindAt 40 = some (.fn 54) from by kernel_rfl]; rfl
  have HNE : Aside0 (ofS xs = (⟨k, (needOf k xs).keys, true, false, []⟩, 0)) := ⟨by
    unfold ofS
    rw [if_neg (by omega), idOf_some hf]
    show (if _ then _ else _) = _
    rw [hl, if_pos ⟨hfit, fun h => by have := h8 h.1; omega⟩]
    exact congrArg (fun x => (x, (0 : Int))) hnd⟩
  have KC : Aside0 (∀ w : World, Below W.heap.size W w → Calls Try.prog 46 #[.string (cmdOf k).name, .slice (some ad) n cp] w fun e W' => RowSaid kUse (needOf k xs).keys w e W') := ⟨fun w hb => keys_calls k hk (some ad) n cp xs ok w (Kd.F_below hF hb) hfit h8 hn6 hn⟩
  have FT : Aside0 (∀ w : World, Calls Try.prog 27 #[.int .i64 k, .int .i64 n] w fun e w' => e = .returned (.bool true) ∧ Below w.heap.size w w') := ⟨fun w => by have h := refFits_in k (n : Int) w hk (by omega); rw [hfit] at h; exact h⟩
  obtain ⟨b8, hb8⟩ : ∃ b8 : Bool, b8 = (k == 8) := ⟨_, rfl⟩
  have b2 : b8 = true → ((n : Int) % 2 == 0) = false := fun h => by have h9 : k = 8 := (by rw [hb8] at h; simpa using h); have := h8 h9; simp; omega
  rw [← hb8] at h8n
  generalize (cmdOf k).name = nm at *
  generalize word xs 0 = wd at *
  generalize (needOf k xs).keys = ks at *
  clear hs hf hF hfit hk h8 hb8 hnd hc
  cases b8
  all_goals
    try replace b2 := b2 rfl
    have HB := Aside0.mk (below_alloc (Below.refl W.heap.size W) (needB 0 (.slice none 0 0) false false (.slice none 0 0)))
    have HX := Aside0.mk (blk_new W (needB 0 (.slice none 0 0) false false (.slice none 0 0)))
    replace c1 := pw_cell_below HB.out c1
    obtain ⟨x0, x1, x2, x3, x4, xf⟩ := cells5' HX.out
    go_enter Try.func30, Try.ntmps30
    go_wp2_with (first
      | (go_at_call 45; go_must (refine (FD.out _).mono ?_); rintro e w1 ⟨rfl, hb1⟩; replace HB := Aside0.mk (step2 HB.out hb1); replace HX := Aside0.mk (blk_below HX.out hb1); replace c1 := pw_cell_below hb1 c1; clear hb1 x0 x1 x2 x3 x4 xf; obtain ⟨x0, x1, x2, x3, x4, xf⟩ := cells5' HX.out)
      | (go_at_call 27; go_must (refine (FT.out _).mono ?_); rintro e w1 ⟨rfl, hb1⟩; replace HB := Aside0.mk (step2 HB.out hb1); replace HX := Aside0.mk (blk_below HX.out hb1); replace c1 := pw_cell_below hb1 c1; clear hb1 x0 x1 x2 x3 x4 xf; obtain ⟨x0, x1, x2, x3, x4, xf⟩ := cells5' HX.out)
      | (go_at_call 21; go_must (refine (LW.out _).mono ?_); rintro e w1 ⟨rfl, hb1⟩; replace HB := Aside0.mk (step2 HB.out hb1); replace HX := Aside0.mk (blk_below HX.out hb1); replace c1 := pw_cell_below hb1 c1; clear hb1 x0 x1 x2 x3 x4 xf; obtain ⟨x0, x1, x2, x3, x4, xf⟩ := cells5' HX.out)
      | (go_at_call 46; go_must (refine (KC.out _ HB.out).mono ?_); rintro e w1 h1; go_must (unfold RowSaid at h1; obtain ⟨A1, k1, rfl, hk1, HK1, HB1⟩ := h1; have hgs := HB.out.size; have hlt := blk_lt HX.out; have hb1 := HB1.out; replace HB := Aside0.mk (step2 HB.out hb1); replace HX := Aside0.mk (blk_below HX.out hb1); replace c1 := pw_cell_below hb1 c1; clear hb1 x0 x1 x2 x3 x4 xf; obtain ⟨x0, x1, x2, x3, x4, xf⟩ := cells5' (blk_alloc HX.out (needB k (.slice A1 ks.length k1) true false (.slice none 0 0))))))
    refine bodyPost_ret (v := .tuple #[.agg #[.int .i64 k, .slice A1 ks.length k1, .bool true, .bool false, .slice none 0 0], .int .i64 0]) (by simp [results, Try.results30, go_sem, x0, x1, x2, x3, x4]) rfl ?_
    unfold OfSaid
    rw [HNE.out]
    exact ⟨A1, k1, none, 0, rfl, Kd.F_mono (five_F (g := W.heap.size) (Kd.F_alloc HK1.out (needB k (.slice A1 ks.length k1) true false (.slice none 0 0))) (fun b hb => by omega) _ _ _ _ _) (fun b hb => by omega), hk1, F_zero _ _ _, Nat.le_refl _, five_B (below_alloc HB.out (needB k (.slice A1 ks.length k1) true false (.slice none 0 0))) (Nat.le_refl _) _ _ _ _ _⟩
set_option maxHeartbeats 8000000 in
set_option maxRecDepth 100000 in
theorem refOf_dbsize (k : Nat) (hk : k < 56) (hn : 1 ≤ n) (hF : Kd.F Kd.string W ok A n xs) (hs : (word xs 0).size ≤ 140737488351232) (hf : findI (word xs 0) = k) (hfit : fitsB (cmdOf k) (n : Int) = true) (h8 : k = 8 → n % 2 = 1) (hn6 : n ≤ 1000000) (hcp : n ≤ cp) (hc : k = 41) : Calls Try.prog 30 #[.slice A n cp] W fun e W' => OfSaid xs W e W' := by
  have hl := Kd.F_len hF
  have i0 : ((n : Int) == 0) = false := by simp; omega
  have i1 : (0 : Int) < (n : Int) := by omega
  obtain ⟨ad, rfl⟩ := some_at hF (by omega)
  have HF := Aside0.mk hF
  have c1 := word_cell hF 0 (by omega)
  rw [show ad.add 0 = ad from by unfold Addr.add; simp] at c1
  have FD : Aside0 (∀ w : World, Calls Try.prog 45 #[.string (word xs 0)] w fun e w' => e = .returned (.tuple #[.int .i64 k, .bool true]) ∧ Below w.heap.size w w') := ⟨fun w => by
    have h := refFind_calls (word xs 0) w hs
    rw [hf, show decide ((0 : Int) ≤ (k : Int)) = true from by simp] at h
    exact h⟩
  have LW : Aside0 (∀ w : World, Calls Try.prog 21 #[.string (word xs 0)] w fun e w' => e = .returned (.string (cmdOf k).name) ∧ Below w.heap.size w w') := ⟨fun w => by
    have h := refLower_calls (word xs 0) w hs
    rw [lowS_name _ k hk hf] at h
    exact h⟩
  have h8n : ((cmdOf k).name.toList == [109, 115, 101, 116]) = (k == 8) := by rw [ByteArray.toList_eq]; exact names_mset k hk
  have e40 : ((cmdOf k).name.toList == [107, 101, 121, 115]) = false := by rw [ByteArray.toList_eq, (of_names k hk).1]; simp [hc]
  have e41 : ((cmdOf k).name.toList == [100, 98, 115, 105, 122, 101]) = true := by rw [ByteArray.toList_eq, (of_names k hk).2.1]; simp [hc]
  have e42 : ((cmdOf k).name.toList == [102, 108, 117, 115, 104, 97, 108, 108]) = false := by rw [ByteArray.toList_eq, (of_names k hk).2.2.1]; simp [hc]
  have e52 : ((cmdOf k).name.toList == [115, 117, 98, 115, 99, 114, 105, 98, 101]) = false := by rw [ByteArray.toList_eq, (of_names k hk).2.2.2.1]; simp [hc]
  have e54 : ((cmdOf k).name.toList == [112, 117, 98, 108, 105, 115, 104]) = false := by rw [ByteArray.toList_eq, (of_names k hk).2.2.2.2]; simp [hc]
  have hnd : needOf k xs = ⟨k, (needOf k xs).keys, true, false, []⟩ := by subst hc; unfold needOf; rw [show kindAt 41 = some (.fn 55) from by kernel_rfl]; rfl
  have HNE : Aside0 (ofS xs = (⟨k, (needOf k xs).keys, true, false, []⟩, 0)) := ⟨by
    unfold ofS
    rw [if_neg (by omega), idOf_some hf]
    show (if _ then _ else _) = _
    rw [hl, if_pos ⟨hfit, fun h => by have := h8 h.1; omega⟩]
    exact congrArg (fun x => (x, (0 : Int))) hnd⟩
  have KC : Aside0 (∀ w : World, Below W.heap.size W w → Calls Try.prog 46 #[.string (cmdOf k).name, .slice (some ad) n cp] w fun e W' => RowSaid kUse (needOf k xs).keys w e W') := ⟨fun w hb => keys_calls k hk (some ad) n cp xs ok w (Kd.F_below hF hb) hfit h8 hn6 hn⟩
  have FT : Aside0 (∀ w : World, Calls Try.prog 27 #[.int .i64 k, .int .i64 n] w fun e w' => e = .returned (.bool true) ∧ Below w.heap.size w w') := ⟨fun w => by have h := refFits_in k (n : Int) w hk (by omega); rw [hfit] at h; exact h⟩
  obtain ⟨b8, hb8⟩ : ∃ b8 : Bool, b8 = (k == 8) := ⟨_, rfl⟩
  have b2 : b8 = true → ((n : Int) % 2 == 0) = false := fun h => by have h9 : k = 8 := (by rw [hb8] at h; simpa using h); have := h8 h9; simp; omega
  rw [← hb8] at h8n
  generalize (cmdOf k).name = nm at *
  generalize word xs 0 = wd at *
  generalize (needOf k xs).keys = ks at *
  clear hs hf hF hfit hk h8 hb8 hnd hc
  cases b8
  all_goals
    try replace b2 := b2 rfl
    have HB := Aside0.mk (below_alloc (Below.refl W.heap.size W) (needB 0 (.slice none 0 0) false false (.slice none 0 0)))
    have HX := Aside0.mk (blk_new W (needB 0 (.slice none 0 0) false false (.slice none 0 0)))
    replace c1 := pw_cell_below HB.out c1
    obtain ⟨x0, x1, x2, x3, x4, xf⟩ := cells5' HX.out
    go_enter Try.func30, Try.ntmps30
    go_wp2_with (first
      | (go_at_call 45; go_must (refine (FD.out _).mono ?_); rintro e w1 ⟨rfl, hb1⟩; replace HB := Aside0.mk (step2 HB.out hb1); replace HX := Aside0.mk (blk_below HX.out hb1); replace c1 := pw_cell_below hb1 c1; clear hb1 x0 x1 x2 x3 x4 xf; obtain ⟨x0, x1, x2, x3, x4, xf⟩ := cells5' HX.out)
      | (go_at_call 27; go_must (refine (FT.out _).mono ?_); rintro e w1 ⟨rfl, hb1⟩; replace HB := Aside0.mk (step2 HB.out hb1); replace HX := Aside0.mk (blk_below HX.out hb1); replace c1 := pw_cell_below hb1 c1; clear hb1 x0 x1 x2 x3 x4 xf; obtain ⟨x0, x1, x2, x3, x4, xf⟩ := cells5' HX.out)
      | (go_at_call 21; go_must (refine (LW.out _).mono ?_); rintro e w1 ⟨rfl, hb1⟩; replace HB := Aside0.mk (step2 HB.out hb1); replace HX := Aside0.mk (blk_below HX.out hb1); replace c1 := pw_cell_below hb1 c1; clear hb1 x0 x1 x2 x3 x4 xf; obtain ⟨x0, x1, x2, x3, x4, xf⟩ := cells5' HX.out)
      | (go_at_call 46; go_must (refine (KC.out _ HB.out).mono ?_); rintro e w1 h1; go_must (unfold RowSaid at h1; obtain ⟨A1, k1, rfl, hk1, HK1, HB1⟩ := h1; have hgs := HB.out.size; have hlt := blk_lt HX.out; have hb1 := HB1.out; replace HB := Aside0.mk (step2 HB.out hb1); replace HX := Aside0.mk (blk_below HX.out hb1); replace c1 := pw_cell_below hb1 c1; clear hb1 x0 x1 x2 x3 x4 xf; obtain ⟨x0, x1, x2, x3, x4, xf⟩ := cells5' (blk_alloc HX.out (needB k (.slice A1 ks.length k1) true false (.slice none 0 0))))))
    refine bodyPost_ret (v := .tuple #[.agg #[.int .i64 k, .slice A1 ks.length k1, .bool true, .bool false, .slice none 0 0], .int .i64 0]) (by simp [results, Try.results30, go_sem, x0, x1, x2, x3, x4]) rfl ?_
    unfold OfSaid
    rw [HNE.out]
    exact ⟨A1, k1, none, 0, rfl, Kd.F_mono (five_F (g := W.heap.size) (Kd.F_alloc HK1.out (needB k (.slice A1 ks.length k1) true false (.slice none 0 0))) (fun b hb => by omega) _ _ _ _ _) (fun b hb => by omega), hk1, F_zero _ _ _, Nat.le_refl _, five_B (below_alloc HB.out (needB k (.slice A1 ks.length k1) true false (.slice none 0 0))) (Nat.le_refl _) _ _ _ _ _⟩
set_option maxHeartbeats 8000000 in
set_option maxRecDepth 100000 in
theorem refOf_flush (k : Nat) (hk : k < 56) (hn : 1 ≤ n) (hF : Kd.F Kd.string W ok A n xs) (hs : (word xs 0).size ≤ 140737488351232) (hf : findI (word xs 0) = k) (hfit : fitsB (cmdOf k) (n : Int) = true) (h8 : k = 8 → n % 2 = 1) (hn6 : n ≤ 1000000) (hcp : n ≤ cp) (hc : k = 42) : Calls Try.prog 30 #[.slice A n cp] W fun e W' => OfSaid xs W e W' := by
  have hl := Kd.F_len hF
  have i0 : ((n : Int) == 0) = false := by simp; omega
  have i1 : (0 : Int) < (n : Int) := by omega
  obtain ⟨ad, rfl⟩ := some_at hF (by omega)
  have HF := Aside0.mk hF
  have c1 := word_cell hF 0 (by omega)
  rw [show ad.add 0 = ad from by unfold Addr.add; simp] at c1
  have FD : Aside0 (∀ w : World, Calls Try.prog 45 #[.string (word xs 0)] w fun e w' => e = .returned (.tuple #[.int .i64 k, .bool true]) ∧ Below w.heap.size w w') := ⟨fun w => by
    have h := refFind_calls (word xs 0) w hs
    rw [hf, show decide ((0 : Int) ≤ (k : Int)) = true from by simp] at h
    exact h⟩
  have LW : Aside0 (∀ w : World, Calls Try.prog 21 #[.string (word xs 0)] w fun e w' => e = .returned (.string (cmdOf k).name) ∧ Below w.heap.size w w') := ⟨fun w => by
    have h := refLower_calls (word xs 0) w hs
    rw [lowS_name _ k hk hf] at h
    exact h⟩
  have h8n : ((cmdOf k).name.toList == [109, 115, 101, 116]) = (k == 8) := by rw [ByteArray.toList_eq]; exact names_mset k hk
  have e40 : ((cmdOf k).name.toList == [107, 101, 121, 115]) = false := by rw [ByteArray.toList_eq, (of_names k hk).1]; simp [hc]
  have e41 : ((cmdOf k).name.toList == [100, 98, 115, 105, 122, 101]) = false := by rw [ByteArray.toList_eq, (of_names k hk).2.1]; simp [hc]
  have e42 : ((cmdOf k).name.toList == [102, 108, 117, 115, 104, 97, 108, 108]) = true := by rw [ByteArray.toList_eq, (of_names k hk).2.2.1]; simp [hc]
  have e52 : ((cmdOf k).name.toList == [115, 117, 98, 115, 99, 114, 105, 98, 101]) = false := by rw [ByteArray.toList_eq, (of_names k hk).2.2.2.1]; simp [hc]
  have e54 : ((cmdOf k).name.toList == [112, 117, 98, 108, 105, 115, 104]) = false := by rw [ByteArray.toList_eq, (of_names k hk).2.2.2.2]; simp [hc]
  have hnd : needOf k xs = ⟨k, (needOf k xs).keys, false, true, []⟩ := by subst hc; unfold needOf; rw [show kindAt 42 = some (.fn 56) from by kernel_rfl]; rfl
  have HNE : Aside0 (ofS xs = (⟨k, (needOf k xs).keys, false, true, []⟩, 0)) := ⟨by
    unfold ofS
    rw [if_neg (by omega), idOf_some hf]
    show (if _ then _ else _) = _
    rw [hl, if_pos ⟨hfit, fun h => by have := h8 h.1; omega⟩]
    exact congrArg (fun x => (x, (0 : Int))) hnd⟩
  have KC : Aside0 (∀ w : World, Below W.heap.size W w → Calls Try.prog 46 #[.string (cmdOf k).name, .slice (some ad) n cp] w fun e W' => RowSaid kUse (needOf k xs).keys w e W') := ⟨fun w hb => keys_calls k hk (some ad) n cp xs ok w (Kd.F_below hF hb) hfit h8 hn6 hn⟩
  have FT : Aside0 (∀ w : World, Calls Try.prog 27 #[.int .i64 k, .int .i64 n] w fun e w' => e = .returned (.bool true) ∧ Below w.heap.size w w') := ⟨fun w => by have h := refFits_in k (n : Int) w hk (by omega); rw [hfit] at h; exact h⟩
  obtain ⟨b8, hb8⟩ : ∃ b8 : Bool, b8 = (k == 8) := ⟨_, rfl⟩
  have b2 : b8 = true → ((n : Int) % 2 == 0) = false := fun h => by have h9 : k = 8 := (by rw [hb8] at h; simpa using h); have := h8 h9; simp; omega
  rw [← hb8] at h8n
  generalize (cmdOf k).name = nm at *
  generalize word xs 0 = wd at *
  generalize (needOf k xs).keys = ks at *
  clear hs hf hF hfit hk h8 hb8 hnd hc
  cases b8
  all_goals
    try replace b2 := b2 rfl
    have HB := Aside0.mk (below_alloc (Below.refl W.heap.size W) (needB 0 (.slice none 0 0) false false (.slice none 0 0)))
    have HX := Aside0.mk (blk_new W (needB 0 (.slice none 0 0) false false (.slice none 0 0)))
    replace c1 := pw_cell_below HB.out c1
    obtain ⟨x0, x1, x2, x3, x4, xf⟩ := cells5' HX.out
    go_enter Try.func30, Try.ntmps30
    go_wp2_with (first
      | (go_at_call 45; go_must (refine (FD.out _).mono ?_); rintro e w1 ⟨rfl, hb1⟩; replace HB := Aside0.mk (step2 HB.out hb1); replace HX := Aside0.mk (blk_below HX.out hb1); replace c1 := pw_cell_below hb1 c1; clear hb1 x0 x1 x2 x3 x4 xf; obtain ⟨x0, x1, x2, x3, x4, xf⟩ := cells5' HX.out)
      | (go_at_call 27; go_must (refine (FT.out _).mono ?_); rintro e w1 ⟨rfl, hb1⟩; replace HB := Aside0.mk (step2 HB.out hb1); replace HX := Aside0.mk (blk_below HX.out hb1); replace c1 := pw_cell_below hb1 c1; clear hb1 x0 x1 x2 x3 x4 xf; obtain ⟨x0, x1, x2, x3, x4, xf⟩ := cells5' HX.out)
      | (go_at_call 21; go_must (refine (LW.out _).mono ?_); rintro e w1 ⟨rfl, hb1⟩; replace HB := Aside0.mk (step2 HB.out hb1); replace HX := Aside0.mk (blk_below HX.out hb1); replace c1 := pw_cell_below hb1 c1; clear hb1 x0 x1 x2 x3 x4 xf; obtain ⟨x0, x1, x2, x3, x4, xf⟩ := cells5' HX.out)
      | (go_at_call 46; go_must (refine (KC.out _ HB.out).mono ?_); rintro e w1 h1; go_must (unfold RowSaid at h1; obtain ⟨A1, k1, rfl, hk1, HK1, HB1⟩ := h1; have hgs := HB.out.size; have hlt := blk_lt HX.out; have hb1 := HB1.out; replace HB := Aside0.mk (step2 HB.out hb1); replace HX := Aside0.mk (blk_below HX.out hb1); replace c1 := pw_cell_below hb1 c1; clear hb1 x0 x1 x2 x3 x4 xf; obtain ⟨x0, x1, x2, x3, x4, xf⟩ := cells5' (blk_alloc HX.out (needB k (.slice A1 ks.length k1) false true (.slice none 0 0))))))
    refine bodyPost_ret (v := .tuple #[.agg #[.int .i64 k, .slice A1 ks.length k1, .bool false, .bool true, .slice none 0 0], .int .i64 0]) (by simp [results, Try.results30, go_sem, x0, x1, x2, x3, x4]) rfl ?_
    unfold OfSaid
    rw [HNE.out]
    exact ⟨A1, k1, none, 0, rfl, Kd.F_mono (five_F (g := W.heap.size) (Kd.F_alloc HK1.out (needB k (.slice A1 ks.length k1) false true (.slice none 0 0))) (fun b hb => by omega) _ _ _ _ _) (fun b hb => by omega), hk1, F_zero _ _ _, Nat.le_refl _, five_B (below_alloc HB.out (needB k (.slice A1 ks.length k1) false true (.slice none 0 0))) (Nat.le_refl _) _ _ _ _ _⟩
set_option maxHeartbeats 8000000 in
set_option maxRecDepth 100000 in
theorem refOf_sub (k : Nat) (hk : k < 56) (hn : 1 ≤ n) (hF : Kd.F Kd.string W ok A n xs) (hs : (word xs 0).size ≤ 140737488351232) (hf : findI (word xs 0) = k) (hfit : fitsB (cmdOf k) (n : Int) = true) (h8 : k = 8 → n % 2 = 1) (hn6 : n ≤ 1000000) (hcp : n ≤ cp) (hc : k = 52) (h2 : 2 ≤ n) : Calls Try.prog 30 #[.slice A n cp] W fun e W' => OfSaid xs W e W' := by
  have hl := Kd.F_len hF
  have i0 : ((n : Int) == 0) = false := by simp; omega
  have i1 : (0 : Int) < (n : Int) := by omega
  obtain ⟨ad, rfl⟩ := some_at hF (by omega)
  have HF := Aside0.mk hF
  have c1 := word_cell hF 0 (by omega)
  rw [show ad.add 0 = ad from by unfold Addr.add; simp] at c1
  have FD : Aside0 (∀ w : World, Calls Try.prog 45 #[.string (word xs 0)] w fun e w' => e = .returned (.tuple #[.int .i64 k, .bool true]) ∧ Below w.heap.size w w') := ⟨fun w => by
    have h := refFind_calls (word xs 0) w hs
    rw [hf, show decide ((0 : Int) ≤ (k : Int)) = true from by simp] at h
    exact h⟩
  have LW : Aside0 (∀ w : World, Calls Try.prog 21 #[.string (word xs 0)] w fun e w' => e = .returned (.string (cmdOf k).name) ∧ Below w.heap.size w w') := ⟨fun w => by
    have h := refLower_calls (word xs 0) w hs
    rw [lowS_name _ k hk hf] at h
    exact h⟩
  have h8n : ((cmdOf k).name.toList == [109, 115, 101, 116]) = (k == 8) := by rw [ByteArray.toList_eq]; exact names_mset k hk
  have e40 : ((cmdOf k).name.toList == [107, 101, 121, 115]) = false := by rw [ByteArray.toList_eq, (of_names k hk).1]; simp [hc]
  have e41 : ((cmdOf k).name.toList == [100, 98, 115, 105, 122, 101]) = false := by rw [ByteArray.toList_eq, (of_names k hk).2.1]; simp [hc]
  have e42 : ((cmdOf k).name.toList == [102, 108, 117, 115, 104, 97, 108, 108]) = false := by rw [ByteArray.toList_eq, (of_names k hk).2.2.1]; simp [hc]
  have e52 : ((cmdOf k).name.toList == [115, 117, 98, 115, 99, 114, 105, 98, 101]) = true := by rw [ByteArray.toList_eq, (of_names k hk).2.2.2.1]; simp [hc]
  have e54 : ((cmdOf k).name.toList == [112, 117, 98, 108, 105, 115, 104]) = false := by rw [ByteArray.toList_eq, (of_names k hk).2.2.2.2]; simp [hc]
  have hnd : needOf k xs = ⟨k, (needOf k xs).keys, false, false, (xs.drop 1)⟩ := by subst hc; unfold needOf; rw [show kindAt 52 = some (.fn 57) from by kernel_rfl]; rfl
  obtain ⟨ds, hds⟩ : ∃ ds, ds = xs.drop 1 := ⟨_, rfl⟩
  rw [← hds] at hnd
  have HDS := Aside0.mk hds
  have HD : Aside0 (Kd.F Kd.string W (fun b => ok b ∧ b < W.heap.size) (some ⟨ad.block, ad.off + 1, none⟩) (n - 1) ds) := ⟨by
    have h := Kd.F_bound hF
    rw [← hl] at h
    have h1 := Kd.F_cut (m := 1) (c := cp) h (by omega) (by omega)
    rw [if_neg (by omega), ← hds] at h1
    have h2 : ds.length = n - 1 := by rw [hds, List.length_drop, hl]
    rw [h2] at h1
    exact h1⟩
  have HM16 : Aside0 ((n - 1) * 16 ≤ 140737488355328) := ⟨by omega⟩
  have j1 : (1 : Int) ≤ (n : Int) := by omega
  have j2 : (n : Int) ≤ (cp : Int) := by omega
  have j3 : ¬ cp = 1 := by omega
  clear hds
  have HNE : Aside0 (ofS xs = (⟨k, (needOf k xs).keys, false, false, ds⟩, 0)) := ⟨by
    unfold ofS
    rw [if_neg (by omega), idOf_some hf]
    show (if _ then _ else _) = _
    rw [hl, if_pos ⟨hfit, fun h => by have := h8 h.1; omega⟩]
    exact congrArg (fun x => (x, (0 : Int))) hnd⟩
  have KC : Aside0 (∀ w : World, Below W.heap.size W w → Calls Try.prog 46 #[.string (cmdOf k).name, .slice (some ad) n cp] w fun e W' => RowSaid kUse (needOf k xs).keys w e W') := ⟨fun w hb => keys_calls k hk (some ad) n cp xs ok w (Kd.F_below hF hb) hfit h8 hn6 hn⟩
  have FT : Aside0 (∀ w : World, Calls Try.prog 27 #[.int .i64 k, .int .i64 n] w fun e w' => e = .returned (.bool true) ∧ Below w.heap.size w w') := ⟨fun w => by have h := refFits_in k (n : Int) w hk (by omega); rw [hfit] at h; exact h⟩
  obtain ⟨b8, hb8⟩ : ∃ b8 : Bool, b8 = (k == 8) := ⟨_, rfl⟩
  have b2 : b8 = true → ((n : Int) % 2 == 0) = false := fun h => by have h9 : k = 8 := (by rw [hb8] at h; simpa using h); have := h8 h9; simp; omega
  rw [← hb8] at h8n
  generalize (cmdOf k).name = nm at *
  generalize word xs 0 = wd at *
  generalize (needOf k xs).keys = ks at *
  clear hs hf hF hfit hk h8 hb8 hnd hc
  cases b8
  all_goals
    try replace b2 := b2 rfl
    have HB := Aside0.mk (below_alloc (Below.refl W.heap.size W) (needB 0 (.slice none 0 0) false false (.slice none 0 0)))
    have HX := Aside0.mk (blk_new W (needB 0 (.slice none 0 0) false false (.slice none 0 0)))
    replace c1 := pw_cell_below HB.out c1
    obtain ⟨x0, x1, x2, x3, x4, xf⟩ := cells5' HX.out
    go_enter Try.func30, Try.ntmps30
    go_upto_region 21 with (first
      | (go_at_call 45; go_must (refine (FD.out _).mono ?_); rintro e w1 ⟨rfl, hb1⟩; replace HB := Aside0.mk (step2 HB.out hb1); replace HX := Aside0.mk (blk_below HX.out hb1); replace c1 := pw_cell_below hb1 c1; clear hb1 x0 x1 x2 x3 x4 xf; obtain ⟨x0, x1, x2, x3, x4, xf⟩ := cells5' HX.out)
      | (go_at_call 27; go_must (refine (FT.out _).mono ?_); rintro e w1 ⟨rfl, hb1⟩; replace HB := Aside0.mk (step2 HB.out hb1); replace HX := Aside0.mk (blk_below HX.out hb1); replace c1 := pw_cell_below hb1 c1; clear hb1 x0 x1 x2 x3 x4 xf; obtain ⟨x0, x1, x2, x3, x4, xf⟩ := cells5' HX.out)
      | (go_at_call 21; go_must (refine (LW.out _).mono ?_); rintro e w1 ⟨rfl, hb1⟩; replace HB := Aside0.mk (step2 HB.out hb1); replace HX := Aside0.mk (blk_below HX.out hb1); replace c1 := pw_cell_below hb1 c1; clear hb1 x0 x1 x2 x3 x4 xf; obtain ⟨x0, x1, x2, x3, x4, xf⟩ := cells5' HX.out)
      | (go_at_call 46; go_must (refine (KC.out _ HB.out).mono ?_); rintro e w1 h1; go_must (unfold RowSaid at h1; obtain ⟨A1, k1, rfl, hk1, HK1, HB1⟩ := h1; have hgs := HB.out.size; have hlt := blk_lt HX.out; have hb1 := HB1.out; replace HB := Aside0.mk (step2 HB.out hb1); replace HX := Aside0.mk (blk_below HX.out hb1); replace c1 := pw_cell_below hb1 c1; clear hb1 x0 x1 x2 x3 x4 xf; obtain ⟨x0, x1, x2, x3, x4, xf⟩ := cells5' (blk_alloc HX.out (needB k (.slice A1 ks.length k1) false false (.slice none 0 0)))))
      | ((with_reducible refine gate_dst (N := 59) rfl ?_); go_must (refine Kd.N_lit Kd.string (w0 := w1.alloc (needB k (.slice A1 ks.length k1) false false (.slice none 0 0))) (w1.alloc (needB k (.slice A1 ks.length k1) false false (.slice none 0 0))).heap.size 9 rfl (N' := 59) rfl (xs := ([] : List ByteArray)) (inner := []) (ok := fun _ => True) (okp := fun _ => False) (by go_simp; try rfl) (Reps.none _ _) (fun _ hk => hk.elim) trivial (Below.refl _ _) (Nat.le_refl _) (by decide) ?_); go_must (intro v2 w2 hN hb hg1 hv; obtain ⟨Ao, co, rfl⟩ := Kd.N_slice hN; have HNo := Aside0.mk hN; have HR := Aside0.mk hb; clear hN hb hg1 hv x0 x1 x2 x3 x4 xf))
      | ((with_reducible refine gate_builtin (b := .append) (xs := #[.tmp 59, .tmp 61]) rfl ?_); at_builtin; go_must (refine Kd.N_append_rows Kd.string (w0 := w1.alloc (needB k (.slice A1 ks.length k1) false false (.slice none 0 0))) (w1.alloc (needB k (.slice A1 ks.length k1) false false (.slice none 0 0))).heap.size rfl (.tmp 59) (.tmp 61) 35 9 (.string ⟨#[]⟩) 16 rfl Try.underlying35 info9 rfl (by decide) (by decide) (.slice Ao 0 co) [] ds (some ⟨ad.block, ad.off + 1, none⟩) (n - 1) (cp - 1) (fun _ => True) (fun b => ok b ∧ b < W.heap.size) ?hs4 ?hx4 HNo.out (Kd.F_below HD.out (step2 (below_alloc HB.out (needB k (.slice A1 ks.length k1) false false (.slice none 0 0))) HR.out)) ?x4 (fun _ _ => trivial) HR.out HR.out.size ?l4 ?_); go_must ((case hs4 => rfl)); go_must ((case hx4 => rfl)); go_must ((case x4 => exact fun b hb => ⟨trivial, fun e => by have h1 := Kd.N_base HNo.out b e.symm; have h2 := (below_alloc HB.out (needB k (.slice A1 ks.length k1) false false (.slice none 0 0))).size; omega⟩)); go_must ((case l4 => have h1 := HM16.out; simp only [List.length_nil]; omega)); go_must (intro v4 w4 hN hb hg1 hv; rw [List.nil_append] at hN; obtain ⟨A5, c5, rfl⟩ := Kd.N_slice hN; have HN5 := Aside0.mk (N_flat flat_string hN (Kd.N_base hN)); have HX0 := HX; have HX := Aside0.mk (blk_below (blk_alloc HX.out (needB k (.slice A1 ks.length k1) false false (.slice none 0 0))) hb); have HY := Aside0.mk (blk_below (blk_new w1 (needB k (.slice A1 ks.length k1) false false (.slice none 0 0))) hb); have HKz := Aside0.mk (Kd.F_below (Kd.F_alloc (Kd.F_bound HK1.out) (needB k (.slice A1 ks.length k1) false false (.slice none 0 0))) hb); have HLT := Aside0.mk (blk_lt HX0.out); have HB := Aside0.mk (step2 (below_alloc HB.out (needB k (.slice A1 ks.length k1) false false (.slice none 0 0))) hb); obtain ⟨x0, x1, x2, x3, x4, xf⟩ := cells5' HX.out; obtain ⟨y0, y1, y2, y3, y4, yf⟩ := cells5' HY.out; clear hN hb hg1 hv)))
    have hlt9 := HLT.out
    have XN := Aside0.mk (blk_far HX.out (p := ⟨w1.heap.size, 4, none⟩) (by show W.heap.size ≠ w1.heap.size; omega) (.slice A5 ds.length c5))
    have YN : Aside0 ((w4.setCell ⟨w1.heap.size, 4, none⟩ (.slice A5 ds.length c5)).heap[w1.heap.size]? = some (.cells #[.int .i64 k, .slice A1 ks.length k1, .bool false, .bool false, .slice A5 ds.length c5] 46 (0, 0))) := ⟨(blk_set HY.out 4 _).trans rfl⟩
    have KN := Aside0.mk (Kd.F_far (p := ⟨w1.heap.size, 4, none⟩) HKz.out (fun b hb => by show b ≠ w1.heap.size; have := hb.2; omega) (.slice A5 ds.length c5))
    have CN := Aside0.mk (Kd.F_far (p := ⟨w1.heap.size, 4, none⟩) (Kd.N_F HN5.out) (fun b hb => by show b ≠ w1.heap.size; simp at hb; omega) (.slice A5 ds.length c5))
    have BN := Aside0.mk (HB.out.setCell (p := ⟨w1.heap.size, 4, none⟩) (Nat.le_of_lt hlt9) (.slice A5 ds.length c5))
    have hc5 := (Kd.N_reads' HN5.out).2.1
    obtain ⟨wq, hwq⟩ : ∃ wq, wq = w4.setCell ⟨w1.heap.size, 4, none⟩ (.slice A5 ds.length c5) := ⟨_, rfl⟩
    rw [← hwq] at XN YN KN CN BN ⊢
    clear hwq x0 x1 x2 x3 x4 xf y0 y1 y2 y3 y4 yf HX HY HKz HN5
    obtain ⟨x0, x1, x2, x3, x4, xf⟩ := cells5' XN.out
    obtain ⟨y0, y1, y2, y3, y4, yf⟩ := cells5' YN.out
    go_wp2_with fail
    refine bodyPost_ret (v := .tuple #[.agg #[.int .i64 k, .slice A1 ks.length k1, .bool false, .bool false, .slice A5 ds.length c5], .int .i64 0]) (by simp [results, Try.results30, go_sem, x0, x1, x2, x3, x4]) rfl ?_
    unfold OfSaid
    rw [HNE.out]
    exact ⟨A1, k1, A5, c5, rfl, Kd.F_mono (five_F (g := W.heap.size) KN.out (fun b hb => by have := hb.1; omega) _ _ _ _ _) (fun b hb => by have := hb.1; omega), hk1, Kd.F_mono (five_F (g := W.heap.size) CN.out (fun b hb => by simp at hb; omega) _ _ _ _ _) (fun b hb => by simp at hb; omega), hc5, five_B BN.out (Nat.le_refl _) _ _ _ _ _⟩
set_option maxHeartbeats 8000000 in
set_option maxRecDepth 100000 in
theorem refOf_pub (k : Nat) (hk : k < 56) (hn : 1 ≤ n) (hF : Kd.F Kd.string W ok A n xs) (hs : (word xs 0).size ≤ 140737488351232) (hf : findI (word xs 0) = k) (hfit : fitsB (cmdOf k) (n : Int) = true) (h8 : k = 8 → n % 2 = 1) (hn6 : n ≤ 1000000) (hcp : n ≤ cp) (hc : k = 54) (h2 : 2 ≤ n) : Calls Try.prog 30 #[.slice A n cp] W fun e W' => OfSaid xs W e W' := by
  have hl := Kd.F_len hF
  have i0 : ((n : Int) == 0) = false := by simp; omega
  have i1 : (0 : Int) < (n : Int) := by omega
  obtain ⟨ad, rfl⟩ := some_at hF (by omega)
  have HF := Aside0.mk hF
  have c1 := word_cell hF 0 (by omega)
  rw [show ad.add 0 = ad from by unfold Addr.add; simp] at c1
  have FD : Aside0 (∀ w : World, Calls Try.prog 45 #[.string (word xs 0)] w fun e w' => e = .returned (.tuple #[.int .i64 k, .bool true]) ∧ Below w.heap.size w w') := ⟨fun w => by
    have h := refFind_calls (word xs 0) w hs
    rw [hf, show decide ((0 : Int) ≤ (k : Int)) = true from by simp] at h
    exact h⟩
  have LW : Aside0 (∀ w : World, Calls Try.prog 21 #[.string (word xs 0)] w fun e w' => e = .returned (.string (cmdOf k).name) ∧ Below w.heap.size w w') := ⟨fun w => by
    have h := refLower_calls (word xs 0) w hs
    rw [lowS_name _ k hk hf] at h
    exact h⟩
  have h8n : ((cmdOf k).name.toList == [109, 115, 101, 116]) = (k == 8) := by rw [ByteArray.toList_eq]; exact names_mset k hk
  have e40 : ((cmdOf k).name.toList == [107, 101, 121, 115]) = false := by rw [ByteArray.toList_eq, (of_names k hk).1]; simp [hc]
  have e41 : ((cmdOf k).name.toList == [100, 98, 115, 105, 122, 101]) = false := by rw [ByteArray.toList_eq, (of_names k hk).2.1]; simp [hc]
  have e42 : ((cmdOf k).name.toList == [102, 108, 117, 115, 104, 97, 108, 108]) = false := by rw [ByteArray.toList_eq, (of_names k hk).2.2.1]; simp [hc]
  have e52 : ((cmdOf k).name.toList == [115, 117, 98, 115, 99, 114, 105, 98, 101]) = false := by rw [ByteArray.toList_eq, (of_names k hk).2.2.2.1]; simp [hc]
  have e54 : ((cmdOf k).name.toList == [112, 117, 98, 108, 105, 115, 104]) = true := by rw [ByteArray.toList_eq, (of_names k hk).2.2.2.2]; simp [hc]
  obtain ⟨wz, hwz⟩ : ∃ wz, wz = word xs 1 := ⟨_, rfl⟩
  have hnd : needOf k xs = ⟨k, (needOf k xs).keys, false, false, [wz]⟩ := by subst hc; subst hwz; unfold needOf; rw [show kindAt 54 = some (.fn 59) from by kernel_rfl]; rfl
  have hz1 := word_cell hF 1 (by omega)
  rw [show ad.add 1 = ⟨ad.block, ad.off + 1, none⟩ from by unfold Addr.add; simp, ← hwz] at hz1
  have CK : Aside0 (∀ w : World, Below W.heap.size W w → w.cell? ⟨ad.block, ad.off + 1, none⟩ = some (.string wz)) := ⟨fun w hb => pw_cell_below hb hz1⟩
  have j1 : (1 : Int) < (n : Int) := by omega
  clear hz1 hwz
  have HNE : Aside0 (ofS xs = (⟨k, (needOf k xs).keys, false, false, [wz]⟩, 0)) := ⟨by
    unfold ofS
    rw [if_neg (by omega), idOf_some hf]
    show (if _ then _ else _) = _
    rw [hl, if_pos ⟨hfit, fun h => by have := h8 h.1; omega⟩]
    exact congrArg (fun x => (x, (0 : Int))) hnd⟩
  have KC : Aside0 (∀ w : World, Below W.heap.size W w → Calls Try.prog 46 #[.string (cmdOf k).name, .slice (some ad) n cp] w fun e W' => RowSaid kUse (needOf k xs).keys w e W') := ⟨fun w hb => keys_calls k hk (some ad) n cp xs ok w (Kd.F_below hF hb) hfit h8 hn6 hn⟩
  have FT : Aside0 (∀ w : World, Calls Try.prog 27 #[.int .i64 k, .int .i64 n] w fun e w' => e = .returned (.bool true) ∧ Below w.heap.size w w') := ⟨fun w => by have h := refFits_in k (n : Int) w hk (by omega); rw [hfit] at h; exact h⟩
  obtain ⟨b8, hb8⟩ : ∃ b8 : Bool, b8 = (k == 8) := ⟨_, rfl⟩
  have b2 : b8 = true → ((n : Int) % 2 == 0) = false := fun h => by have h9 : k = 8 := (by rw [hb8] at h; simpa using h); have := h8 h9; simp; omega
  rw [← hb8] at h8n
  generalize (cmdOf k).name = nm at *
  generalize word xs 0 = wd at *
  generalize (needOf k xs).keys = ks at *
  clear hs hf hF hfit hk h8 hb8 hnd hc
  cases b8
  all_goals
    try replace b2 := b2 rfl
    have HB := Aside0.mk (below_alloc (Below.refl W.heap.size W) (needB 0 (.slice none 0 0) false false (.slice none 0 0)))
    have HX := Aside0.mk (blk_new W (needB 0 (.slice none 0 0) false false (.slice none 0 0)))
    replace c1 := pw_cell_below HB.out c1
    obtain ⟨x0, x1, x2, x3, x4, xf⟩ := cells5' HX.out
    go_enter Try.func30, Try.ntmps30
    go_upto_region 21 with (first
      | (go_at_call 45; go_must (refine (FD.out _).mono ?_); rintro e w1 ⟨rfl, hb1⟩; replace HB := Aside0.mk (step2 HB.out hb1); replace HX := Aside0.mk (blk_below HX.out hb1); replace c1 := pw_cell_below hb1 c1; clear hb1 x0 x1 x2 x3 x4 xf; obtain ⟨x0, x1, x2, x3, x4, xf⟩ := cells5' HX.out)
      | (go_at_call 27; go_must (refine (FT.out _).mono ?_); rintro e w1 ⟨rfl, hb1⟩; replace HB := Aside0.mk (step2 HB.out hb1); replace HX := Aside0.mk (blk_below HX.out hb1); replace c1 := pw_cell_below hb1 c1; clear hb1 x0 x1 x2 x3 x4 xf; obtain ⟨x0, x1, x2, x3, x4, xf⟩ := cells5' HX.out)
      | (go_at_call 21; go_must (refine (LW.out _).mono ?_); rintro e w1 ⟨rfl, hb1⟩; replace HB := Aside0.mk (step2 HB.out hb1); replace HX := Aside0.mk (blk_below HX.out hb1); replace c1 := pw_cell_below hb1 c1; clear hb1 x0 x1 x2 x3 x4 xf; obtain ⟨x0, x1, x2, x3, x4, xf⟩ := cells5' HX.out)
      | (go_at_call 46; go_must (refine (KC.out _ HB.out).mono ?_); rintro e w1 h1; go_must (unfold RowSaid at h1; obtain ⟨A1, k1, rfl, hk1, HK1, HB1⟩ := h1; have z1 := pw_cell_below (below_alloc (step2 HB.out HB1.out) (needB k (.slice A1 ks.length k1) false false (.slice none 0 0))) (CK.out W (Below.refl _ _)); have hgs := HB.out.size; have hlt := blk_lt HX.out; have hb1 := HB1.out; replace HB := Aside0.mk (step2 HB.out hb1); replace HX := Aside0.mk (blk_below HX.out hb1); replace c1 := pw_cell_below hb1 c1; clear hb1 x0 x1 x2 x3 x4 xf; obtain ⟨x0, x1, x2, x3, x4, xf⟩ := cells5' (blk_alloc HX.out (needB k (.slice A1 ks.length k1) false false (.slice none 0 0)))))
      | ((with_reducible refine gate_dst (N := 69) rfl ?_); go_must (refine Kd.N_lit Kd.string (w0 := w1.alloc (needB k (.slice A1 ks.length k1) false false (.slice none 0 0))) (w1.alloc (needB k (.slice A1 ks.length k1) false false (.slice none 0 0))).heap.size 9 rfl (N' := 69) rfl (xs := [wz]) (inner := [.string wz]) (ok := fun b => (w1.alloc (needB k (.slice A1 ks.length k1) false false (.slice none 0 0))).heap.size ≤ b) (okp := fun _ => False) (by go_simp; try rfl) (texts_reps (fun c => fun W' _ => rfl) [wz]) (fun _ hk => hk.elim) (Nat.le_refl _) (Below.refl _ _) (Nat.le_refl _) (by simp) ?_); go_must (intro v4 w4 hN hb hg1 hv; obtain ⟨A5, c5, rfl⟩ := Kd.N_slice hN; clear x0 x1 x2 x3 x4 xf; have HN5 := Aside0.mk hN; have HX0 := HX; have HX := Aside0.mk (blk_below (blk_alloc HX.out (needB k (.slice A1 ks.length k1) false false (.slice none 0 0))) hb); have HY := Aside0.mk (blk_below (blk_new w1 (needB k (.slice A1 ks.length k1) false false (.slice none 0 0))) hb); have HKz := Aside0.mk (Kd.F_below (Kd.F_alloc (Kd.F_bound HK1.out) (needB k (.slice A1 ks.length k1) false false (.slice none 0 0))) hb); have HLT := Aside0.mk (blk_lt HX0.out); have HB := Aside0.mk (step2 (below_alloc HB.out (needB k (.slice A1 ks.length k1) false false (.slice none 0 0))) hb); obtain ⟨x0, x1, x2, x3, x4, xf⟩ := cells5' HX.out; obtain ⟨y0, y1, y2, y3, y4, yf⟩ := cells5' HY.out; clear hN hb hg1 hv)))
    have hlt9 := HLT.out
    have XN := Aside0.mk (blk_far HX.out (p := ⟨w1.heap.size, 4, none⟩) (by show W.heap.size ≠ w1.heap.size; omega) (.slice A5 1 c5))
    have YN : Aside0 ((w4.setCell ⟨w1.heap.size, 4, none⟩ (.slice A5 1 c5)).heap[w1.heap.size]? = some (.cells #[.int .i64 k, .slice A1 ks.length k1, .bool false, .bool false, .slice A5 1 c5] 46 (0, 0))) := ⟨(blk_set HY.out 4 _).trans rfl⟩
    have KN := Aside0.mk (Kd.F_far (p := ⟨w1.heap.size, 4, none⟩) HKz.out (fun b hb => by show b ≠ w1.heap.size; have := hb.2; omega) (.slice A5 1 c5))
    have CN := Aside0.mk (Kd.F_far (p := ⟨w1.heap.size, 4, none⟩) (Kd.N_F HN5.out) (fun b hb => by show b ≠ w1.heap.size; simp at hb; omega) (.slice A5 1 c5))
    have BN := Aside0.mk (HB.out.setCell (p := ⟨w1.heap.size, 4, none⟩) (Nat.le_of_lt hlt9) (.slice A5 1 c5))
    have hc5 := (Kd.N_reads' HN5.out).2.1
    obtain ⟨wq, hwq⟩ : ∃ wq, wq = w4.setCell ⟨w1.heap.size, 4, none⟩ (.slice A5 1 c5) := ⟨_, rfl⟩
    rw [← hwq] at XN YN KN CN BN ⊢
    clear hwq x0 x1 x2 x3 x4 xf y0 y1 y2 y3 y4 yf HX HY HKz HN5
    obtain ⟨x0, x1, x2, x3, x4, xf⟩ := cells5' XN.out
    obtain ⟨y0, y1, y2, y3, y4, yf⟩ := cells5' YN.out
    go_wp2_with fail
    refine bodyPost_ret (v := .tuple #[.agg #[.int .i64 k, .slice A1 ks.length k1, .bool false, .bool false, .slice A5 1 c5], .int .i64 0]) (by simp [results, Try.results30, go_sem, x0, x1, x2, x3, x4]) rfl ?_
    unfold OfSaid
    rw [HNE.out]
    exact ⟨A1, k1, A5, c5, rfl, Kd.F_mono (five_F (g := W.heap.size) KN.out (fun b hb => by have := hb.1; omega) _ _ _ _ _) (fun b hb => by have := hb.1; omega), hk1, Kd.F_mono (five_F (g := W.heap.size) CN.out (fun b hb => by simp at hb; omega) _ _ _ _ _) (fun b hb => by simp at hb; omega), hc5, five_B BN.out (Nat.le_refl _) _ _ _ _ _⟩
theorem refOf_calls (hF : Kd.F Kd.string W ok A n xs) (hcp : n ≤ cp) (hn6 : n ≤ 1000000) (hs : (word xs 0).size ≤ 140737488351232) : Calls Try.prog 30 #[.slice A n cp] W fun e W' => OfSaid xs W e W' := by
  have hl := Kd.F_len hF
  by_cases hn0 : n = 0
  · exact refOf_empty A n cp xs W hn0 hl
  have hn : 1 ≤ n := by omega
  rcases findI_cases (word xs 0) with hf | ⟨k, hk, hf⟩
  · exact refOf_unknown A n cp xs ok W hn hF hs hf
  by_cases hgo : fitsB (cmdOf k) (n : Int) = true ∧ ¬ (k = 8 ∧ n % 2 = 0)
  · have h8 : k = 8 → n % 2 = 1 := fun h => by have := hgo.2; omega
    have least := fits_least hgo.1
    by_cases q1 : k = 40
    · exact refOf_keys A n cp xs ok W k hk hn hF hs hf hgo.1 h8 hn6 hcp q1
    by_cases q2 : k = 41
    · exact refOf_dbsize A n cp xs ok W k hk hn hF hs hf hgo.1 h8 hn6 hcp q2
    by_cases q3 : k = 42
    · exact refOf_flush A n cp xs ok W k hk hn hF hs hf hgo.1 h8 hn6 hcp q3
    by_cases q4 : k = 52
    · exact refOf_sub A n cp xs ok W k hk hn hF hs hf hgo.1 h8 hn6 hcp q4 (least 2 (by subst q4; exact .inr (by decide +kernel)))
    by_cases q5 : k = 54
    · exact refOf_pub A n cp xs ok W k hk hn hF hs hf hgo.1 h8 hn6 hcp q5 (least 2 (by subst q5; exact .inl (by decide +kernel)))
    exact refOf_plain A n cp xs ok W k hk hn hF hs hf hgo.1 h8 hn6 hcp ⟨q1, q2, q3, q4, q5⟩
  · exact refOf_bad A n cp xs ok W k hk hn hF hs hf hgo
end
end Go.Proofs.Ytflnpgfddedahaa.U
