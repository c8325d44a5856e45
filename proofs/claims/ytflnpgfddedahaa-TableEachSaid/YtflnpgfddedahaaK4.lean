/- The statement TableGroups, walked. -/
import Derived.Test.YtflnpgfddedahaaK3
import Derived.Test.YtflnpgfddedahaaWTab
import Derived.Test.YtflnpgfddedahaaWMore
import Derived.IntWalk
namespace Go.Proofs.Ytflnpgfddedahaa.U
open Go.RowKit Go.Proofs.YtflnpgfddedahaaW.PrintWords Go.Proofs.YtflnpgfddedahaaW.PrintLast
set_option linter.unusedVariables false
set_option linter.unusedSimpArgs false

/-- The bits of all categories behind the first two, up to the k-th. -/
def allUpto : Nat → Int
  | 0 => 0
  | 1 => 0
  | 2 => 0
  | k + 3 => bits BinOp.or IntKind.u64 (allUpto (k + 2)) (maskOf (k + 2))
theorem all_succ (k : Nat) (h : 2 ≤ k) : allUpto (k + 1) = bits BinOp.or IntKind.u64 (allUpto k) (maskOf k) := by
  obtain ⟨i, rfl⟩ : ∃ i, k = i + 2 := ⟨k - 2, by omega⟩
  rfl
theorem all_full : allUpto 12 = 72057594037927935 := by decide +kernel
theorem mask_some : ∀ k : Nat, k < 12 → (maskOf k == 0) = false := by decide +kernel
theorem mask_apart : ∀ p : Nat, p < 12 → ∀ q : Nat, q < 12 → 2 ≤ p → 2 ≤ q → p ≠ q → (bits BinOp.and IntKind.u64 (maskOf p) (maskOf q) == 0) = true := by decide +kernel
theorem join_none : ∀ p : Nat, p < 12 → ∀ q : Nat, q < 12 → idx (fun x : ByteArray => (catName p).data.toList ++ (catName q).data.toList == x.data.toList) CATS = -1 ∧ ((catName p).data.toList ++ (catName q).data.toList == [97, 108, 108]) = false := by decide +kernel
theorem cat_size : ∀ p : Nat, p < 12 → (catName p).size ≤ 11 := by decide
theorem join_call (p q : Nat) (hp : p < 12) (hq : q < 12) (w : World) : Calls Try.prog 18 #[.string (catName p ++ catName q)] w fun e w' => e = .returned (.tuple #[.int .u64 0, .bool false]) ∧ Below w.heap.size w w' := by
  obtain ⟨h1, h2⟩ := join_none p hp q hq
  have e : (catName p ++ catName q).data.toList = (catName p).data.toList ++ (catName q).data.toList := by rw [ByteArray.data_append, Array.toList_append]
  refine cat_none _ w ?_ ?_
  · unfold isAll
    rw [ByteArray.toList_eq, e]
    exact h2
  · rw [catI_data, e]
    exact h1

def grp17T : Bool × List (List Nat × List Nat) := (true, [([], []), ([], []), ([0, 1], [0, 1]), ([2], [2]), ([], []), ([], []), ([4, 5], [4, 5]), ([6], [6]), ([3, 7], [3, 7]), ([8], [8]), ([9], [9]), ([10], [10]), ([10], [10]), ([11, 9, 0, 1, 2, 3, 4, 5, 6, 7, 8, 9, 10, 11], [11]), ([12, 13, 0, 1, 2, 3, 4, 5, 6, 7, 8, 9, 10, 11, 12, 13], [12])])
def grp17B : List Nat := [0, 0, 3, 7, 0, 0, 48, 112, 255, 511, 1023, 2047, 2047, 4095, 16383]
theorem grp17_tab : rtab .any (opsOf Try.f6 17) = grp17T := by kernel_rfl
theorem grp17_bits : waitsOk grp17T.2 grp17B = true := by kernel_rfl
set_option maxHeartbeats 4000000 in
set_option maxRecDepth 100000 in
theorem groups_calls (n m : Nat) (w : World) (hn : n < 256) (hm : m < 256) : Calls Try.prog 6 #[.int .u8 n, .int .u8 m] w fun e w' => e = .returned (.bool true) ∧ Below w.heap.size w w' := by
  obtain ⟨i, hi, hi2⟩ : ∃ i : Nat, (n : Int) % 10 = (i : Int) ∧ i < 10 := ⟨n % 10, by omega, by omega⟩
  obtain ⟨j, hj, hj2⟩ : ∃ j : Nat, (m : Int) % 10 = (j : Int) ∧ j < 10 := ⟨m % 10, by omega, by omega⟩
  obtain ⟨p, hp, hp2, hp12⟩ : ∃ p : Nat, 2 + (i : Int) = (p : Int) ∧ 2 ≤ p ∧ p < 12 := ⟨2 + i, by omega, by omega, by omega⟩
  obtain ⟨q, hq, hq2, hq12⟩ : ∃ q : Nat, 2 + (j : Int) = (q : Int) ∧ 2 ≤ q ∧ q < 12 := ⟨2 + j, by omega, by omega, by omega⟩
  have i0 : (0 : Int) ≤ (n : Int) := by omega
  have i1 : (n : Int) ≤ 255 := by omega
  have j0 : (0 : Int) ≤ (m : Int) := by omega
  have j1 : (m : Int) ≤ 255 := by omega
  have p0 : (0 : Int) ≤ (p : Int) := by omega
  have p1 : (p : Int) < 12 := by omega
  have q0 : (0 : Int) ≤ (q : Int) := by omega
  have q1 : (q : Int) < 12 := by omega
  have CP := Aside0.mk (fun w => cat_calls p w hp12)
  have CQ := Aside0.mk (fun w => cat_calls q w hq12)
  have CJ := Aside0.mk (fun w => join_call p q hp12 hq12 w)
  have HAP := Aside0.mk (mask_apart p hp12 q hq12 hp2 hq2)
  go_enter Try.func6, Try.ntmps6
  go_wp2_with (first | (go_at_call 12; refine (shown_calls _).mono ?_; rintro e w1 ⟨rfl, hb1⟩; have HB := Aside0.mk hb1; clear hb1) | (go_at_call 17; refine (cats_calls _).mono ?_; rintro e w4 ⟨A2, c2, rfl, HF2, hc2, hb4⟩; have HB := Aside0.mk (step2 HB.out hb4); obtain ⟨ad, hlp, rfl, cp⟩ := text_at HF2.out p hp12; obtain ⟨bd, hlq, e2, cq⟩ := text_at HF2.out q hq12; injection e2 with e2; subst e2; rw [cats_get] at cp cq; have HCQ := Aside0.mk cq; clear hc2 hb4 cq) | (go_at_call_of 18 (Value.string (catName p)); go_must (refine (CP.out _).mono ?_); rintro e w5 ⟨rfl, hb5⟩; have HB := Aside0.mk (step2 HB.out hb5); have HF3 := Aside0.mk (Kd.F_below HF2.out hb5); have cq := pw_cell_below hb5 HCQ.out; clear hb5 cp) | (go_at_call 18; go_must (refine (CQ.out _).mono ?_); rintro e w6 ⟨rfl, hb6⟩; have HB := Aside0.mk (step2 HB.out hb6); have HF4 := Aside0.mk (Kd.F_below HF3.out hb6); clear hb6 cq))
  go_loopw [13, 14] (fun m i wr => ∃ k : Nat, 2 ≤ k ∧ k ≤ 12 ∧ i = .int .i64 k ∧ m = .int .u64 (allUpto k) ∧ Aside0 (Below w.heap.size w wr) ∧ Aside0 (Kd.F Kd.string wr (fun b => w1.heap.size ≤ b) (some ad) 12 CATS)) (fun _ i _ => 12 - (intOf i).toNat)
  case atStart => exact ⟨2, by omega, by omega, rfl, rfl, HB, HF4⟩
  case round =>
    obtain ⟨k, hk2, hk12, rfl, rfl, HBr, HFr⟩ := hrel
    by_cases hlt : k < 12
    · obtain ⟨bd, hl, e2, c0⟩ := text_at HFr.out k hlt
      injection e2 with e2
      subst e2
      rw [cats_get] at c0
      have HC := Aside0.mk (fun w => cat_calls k w hlt)
      obtain ⟨Mk, hMk⟩ : ∃ Mk, Mk = maskOf k := ⟨_, rfl⟩
      have hz : (Mk == 0) = false := by rw [hMk]; exact mask_some k hlt
      rw [← hMk] at HC
      obtain ⟨M, hM⟩ : ∃ M, M = allUpto k := ⟨_, rfl⟩
      have HMK := Aside0.mk (show allUpto (k + 1) = bits BinOp.or IntKind.u64 M Mk from by rw [hM, hMk]; exact all_succ k hk2)
      rw [← hM]
      clear hMk hM
      generalize catName k = nmk at c0 HC
      have k1 : (k : Int) < 12 := by omega
      have k0 : (0 : Int) ≤ (k : Int) := by omega
      go_wp2_with (go_at_call 18; go_must (refine (HC.out _).mono ?_); rintro e w7 ⟨rfl, hb7⟩; have HBn := Aside0.mk (step2 HBr.out hb7); have HFn := Aside0.mk (Kd.F_below HFr.out hb7); clear hb7)
      go_roundw
      case rel => exact ⟨k + 1, by omega, by omega, by go_num, by rw [HMK.out], HBn, HFn⟩
      case measure => simp [intOf]; omega
    · rw [show allUpto k = 72057594037927935 from by rw [show k = 12 by omega]; exact all_full]
      have k1 : ¬ (k : Int) < 12 := by omega
      obtain ⟨bd, hlp, e2, cp⟩ := text_at (Kd.F_drew HFr.out) p hp12
      injection e2 with e2
      subst e2
      obtain ⟨bd, hlq, e2, cq⟩ := text_at (Kd.F_drew HFr.out) q hq12
      injection e2 with e2
      subst e2
      rw [cats_get] at cp cq
      have HBd := Aside0.mk HBr.out.drew
      have HCP := Aside0.mk cp
      have HCQ := Aside0.mk cq
      have HSZ : Aside0 (¬ 9223372036854775807 < (catName p).size + (catName q).size) := ⟨by have h1 := cat_size p hp12; have h2 := cat_size q hq12; omega⟩
      generalize hXp : catName p = xp at *
      generalize hXq : catName q = xq at *
      clear hXp hXq cp cq
      go_upto_region 17 with fail
      refine start_ (n := 15) (S := fun w' => w'.cell? (ad.add p) = some (.string xp) ∧ w'.cell? (ad.add q) = some (.string xq)) (ds := []) #[false, false, false, false, false, false, false, false, false, false, false, false, false, false, false] (by kernel_rfl) rfl rfl ⟨HCP.out, HCQ.out⟩ (fun hHeld => with_tabW grp17_tab grp17_bits (fun HT_ HW_ => ?_))
      generalize wr.drew = wd at HBd HCP HCQ hHeld ⊢
      refine pure_ (i := 0) (N := some 70) (v := ?_) (a' := ?_) #[true, false, false, false, false, false, false, false, false, false, false, false, false, false, false] rfl rfl (any_of HT_.out (by kernel_rfl)) (fun _ _ _ h => h) (Or.inl ⟨by rfl, ?_⟩) ?_ ?_
      rotate_left
      · intro w'
        go_simp
        with_reducible rfl
      rotate_left
      · simp only [Act.put, List.setIfInBounds_toArray, List.set_cons_zero, List.set_cons_succ, i64_w, i32_w]
        rfl
      refine pure_ (i := 1) (N := some 71) (v := ?_) (a' := ?_) #[true, true, false, false, false, false, false, false, false, false, false, false, false, false, false] rfl rfl (any_of HT_.out (by kernel_rfl)) (fun _ _ _ h => h) (Or.inl ⟨by rfl, ?_⟩) ?_ ?_
      rotate_left
      · intro w'
        go_simp
        with_reducible rfl
      rotate_left
      · simp only [Act.put, List.setIfInBounds_toArray, List.set_cons_zero, List.set_cons_succ, i64_w, i32_w]
        rfl
      refine pure_ (i := 4) (N := some 74) (v := ?_) (a' := ?_) #[true, true, false, false, true, false, false, false, false, false, false, false, false, false, false] rfl rfl (any_of HT_.out (by kernel_rfl)) (fun _ _ _ h => h) (Or.inl ⟨by rfl, ?_⟩) ?_ ?_
      rotate_left
      · intro w'
        go_simp
        with_reducible rfl
      rotate_left
      · simp only [Act.put, List.setIfInBounds_toArray, List.set_cons_zero, List.set_cons_succ, i64_w, i32_w]
        rfl
      refine pure_ (i := 5) (N := some 75) (v := ?_) (a' := ?_) #[true, true, false, false, true, true, false, false, false, false, false, false, false, false, false] rfl rfl (any_of HT_.out (by kernel_rfl)) (fun _ _ _ h => h) (Or.inl ⟨by rfl, ?_⟩) ?_ ?_
      rotate_left
      · intro w'
        go_simp
        with_reducible rfl
      rotate_left
      · simp only [Act.put, List.setIfInBounds_toArray, List.set_cons_zero, List.set_cons_succ, i64_w, i32_w]
        rfl
      refine pure_ (i := 2) (N := some 72) (v := ?_) (a' := ?_) #[true, true, true, false, true, true, false, false, false, false, false, false, false, false, false] rfl rfl (any_of HT_.out (by kernel_rfl)) (fun _ _ _ h => h) (Or.inl ⟨by rfl, ?_⟩) ?_ ?_
      rotate_left
      · intro w'
        go_simp
        with_reducible rfl
      rotate_left
      · simp only [Act.put, List.setIfInBounds_toArray, List.set_cons_zero, List.set_cons_succ, i64_w, i32_w]
        rfl
      refine pure_ (i := 6) (N := some 76) (v := ?_) (a' := ?_) #[true, true, true, false, true, true, true, false, false, false, false, false, false, false, false] rfl rfl (any_of HT_.out (by kernel_rfl)) (fun _ _ _ h => h) (Or.inl ⟨by rfl, ?_⟩) ?_ ?_
      rotate_left
      · intro w'
        go_simp
        with_reducible rfl
      rotate_left
      · simp only [Act.put, List.setIfInBounds_toArray, List.set_cons_zero, List.set_cons_succ, i64_w, i32_w]
        rfl
      refine take_ (i := 3) (N := some 73) (v := ?_) (a' := ?_) #[true, true, true, true, true, true, true, false, false, false, false, false, false, false, false] rfl rfl (take_ofW HT_.out HW_.out (by kernel_rfl)) (fun _ _ _ h => h) (Or.inl ⟨by rfl, ?_⟩) hHeld ?_ ?_
      rotate_left
      · rintro w' ⟨s0, s1⟩
        go_simp
        with_reducible rfl
      rotate_left
      · simp only [Act.put, List.setIfInBounds_toArray, List.set_cons_zero, List.set_cons_succ, i64_w, i32_w]
        rfl
      refine take_ (i := 7) (N := some 77) (v := ?_) (a' := ?_) #[true, true, true, true, true, true, true, true, false, false, false, false, false, false, false] rfl rfl (take_ofW HT_.out HW_.out (by kernel_rfl)) (fun _ _ _ h => h) (Or.inl ⟨by rfl, ?_⟩) hHeld ?_ ?_
      rotate_left
      · rintro w' ⟨s0, s1⟩
        go_simp
        with_reducible rfl
      rotate_left
      · simp only [Act.put, List.setIfInBounds_toArray, List.set_cons_zero, List.set_cons_succ, i64_w, i32_w]
        rfl
      refine pure_ (i := 8) (N := some 78) (v := ?_) (a' := ?_) #[true, true, true, true, true, true, true, true, true, false, false, false, false, false, false] rfl rfl (any_of HT_.out (by kernel_rfl)) (fun _ _ _ h => h) (Or.inl ⟨by rfl, ?_⟩) ?_ ?_
      rotate_left
      · intro w'
        go_simp
        rw [if_neg HSZ.out]
      rotate_left
      · simp only [Act.put, List.setIfInBounds_toArray, List.set_cons_zero, List.set_cons_succ, i64_w, i32_w]
        rfl
      refine one_ (i := 9) (N := some 79) #[true, true, true, true, true, true, true, true, true, true, false, false, false, false, false] rfl rfl (one_of HT_.out (by kernel_rfl)) (by decide) (fun K hK => ?_)
      refine goes_ Try.func18 (by kernel_rfl) rfl #[.string (xp ++ xq)] (by rfl) rfl rfl (by first | rfl | (simp [Act.eval]; done) | kernel_rfl) ?_
      refine (CJ.out _).mono ?_
      rintro e w9 ⟨rfl, hb9⟩
      have HB9 := step2 HBd.out hb9
      have HC9 := And.intro (pw_cell_below hb9 HCP.out) (pw_cell_below hb9 HCQ.out)
      clear hb9
      refine ⟨_, rfl, ?_⟩
      refine hK.out _ _ HC9 (fun hHeld => ?_)
      clear hK K
      refine norm_ (a' := ?_) ?_ ?_
      rotate_left
      · show Act.put _ (some 79) _ = _
        simp only [Act.put, List.setIfInBounds_toArray, List.set_cons_zero, List.set_cons_succ, i64_w, i32_w]
        rfl
      refine pure_ (i := 10) (N := some 69) (v := ?_) (a' := ?_) #[true, true, true, true, true, true, true, true, true, true, true, false, false, false, false] rfl rfl (any_of HT_.out (by kernel_rfl)) (fun _ _ _ h => h) (Or.inl ⟨by rfl, ?_⟩) ?_ ?_
      rotate_left
      · intro w'
        go_simp
        with_reducible rfl
      rotate_left
      · simp only [Act.put, List.setIfInBounds_toArray, List.set_cons_zero, List.set_cons_succ, i64_w, i32_w]
        rfl
      refine pure_ (i := 11) (N := some 80) (v := ?_) (a' := ?_) #[true, true, true, true, true, true, true, true, true, true, true, true, false, false, false] rfl rfl (any_of HT_.out (by kernel_rfl)) (fun _ _ _ h => h) (Or.inl ⟨by rfl, ?_⟩) ?_ ?_
      rotate_left
      · intro w'
        go_simp
        with_reducible rfl
      rotate_left
      · simp only [Act.put, List.setIfInBounds_toArray, List.set_cons_zero, List.set_cons_succ, i64_w, i32_w]
        rfl
      refine pure_ (i := 12) (N := some 81) (v := ?_) (a' := ?_) #[true, true, true, true, true, true, true, true, true, true, true, true, true, false, false] rfl rfl (any_of HT_.out (by kernel_rfl)) (fun _ _ _ h => h) (Or.inl ⟨by rfl, ?_⟩) ?_ ?_
      rotate_left
      · intro w'
        go_simp
        with_reducible rfl
      rotate_left
      · simp only [Act.put, List.setIfInBounds_toArray, List.set_cons_zero, List.set_cons_succ, i64_w, i32_w]
        rfl
      refine pure_ (i := 13) (N := some 17) (v := ?_) (a' := ?_) #[true, true, true, true, true, true, true, true, true, true, true, true, true, true, false] rfl rfl (any_of HT_.out (by kernel_rfl)) (fun _ _ _ h => h) (Or.inl ⟨by rfl, ?_⟩) ?_ ?_
      rotate_left
      · intro w'
        go_simp
        with_reducible rfl
      rotate_left
      · simp only [Act.put, List.setIfInBounds_toArray, List.set_cons_zero, List.set_cons_succ, i64_w, i32_w]
        rfl
      refine pure_ (i := 14) (N := some 18) (v := ?_) (a' := ?_) #[true, true, true, true, true, true, true, true, true, true, true, true, true, true, true] rfl rfl (any_of HT_.out (by kernel_rfl)) (fun _ _ _ h => h) (Or.inl ⟨by rfl, ?_⟩) ?_ ?_
      rotate_left
      · intro w'
        go_simp
        with_reducible rfl
      rotate_left
      · simp only [Act.put, List.setIfInBounds_toArray, List.set_cons_zero, List.set_cons_succ, i64_w, i32_w]
        rfl
      refine done_ (done_of HT_.out (by kernel_rfl)) ?_
      have HB9 := Aside0.mk HB9
      clear hHeld HC9 hi hj hp hq i0 i1 j0 j1 p0 p1 q0 q1 k1
      rcases (show p = q ∨ p ≠ q by omega) with hpq | hpq
      · have e1 : ((p : Int) == (q : Int)) = true := by simp [hpq]
        clear hpq
        go_wp2_with fail
        go_ret
        exact ⟨rfl, HB9.out⟩
      · have e1 : ((p : Int) == (q : Int)) = false := by simp; omega
        have e3 := HAP.out hpq
        clear hpq
        go_wp2_with fail
        go_ret
        exact ⟨by first | rfl | (rw [e3]), HB9.out⟩
end Go.Proofs.Ytflnpgfddedahaa.U
