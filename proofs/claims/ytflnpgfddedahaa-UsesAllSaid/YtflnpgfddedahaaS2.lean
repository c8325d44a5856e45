/- The reference's Find. -/
import Derived.Test.YtflnpgfddedahaaR1
import Derived.Test.YtflnpgfddedahaaV8
import Derived.Test.YtflnpgfddedahaaWTab
import Derived.Test.YtflnpgfddedahaaWLast
import Derived.Test.YtflnpgfddedahaaWMore
namespace Go.Proofs.Ytflnpgfddedahaa.U
open Go.RowKit Go.Great Go.Proofs.YtflnpgfddedahaaW.PrintWords Go.Proofs.YtflnpgfddedahaaW.PrintLast Go.Proofs.YtflnpgfddedahaaW.PrintMore
set_option linter.unusedVariables false
set_option linter.unusedSimpArgs false
def find5T : Bool × List (List Nat × List Nat) := (true, [([], []), ([], []), ([0, 1], [0, 1]), ([2], [2]), ([3], [3]), ([], []), ([5], [5]), ([4, 6], [4, 6])])
def find5B : List Nat := [0, 0, 3, 7, 15, 0, 32, 127]
theorem find5_tab : rtab .any (opsOf Try.f45 5) = find5T := by kernel_rfl
theorem find5_bits : waitsOk find5T.2 find5B = true := by kernel_rfl

set_option maxHeartbeats 4000000 in
set_option maxRecDepth 100000 in
theorem refFind_calls (s : ByteArray) (w : World) (hs : s.size ≤ 140737488351232) :
    Calls Try.prog 45 #[.string s] w fun e w' => e = .returned (.tuple #[.int .i64 (findI s), .bool (decide (0 ≤ findI s))]) ∧ Below w.heap.size w w' := by
  have LW := Aside0.mk (fun w => refLower_calls s w hs)
  obtain ⟨lo, hlo⟩ : ∃ lo, lo = lowS s := ⟨_, rfl⟩
  have HLO := Aside0.mk hlo
  rw [← hlo] at LW
  have HFI : Aside0 (findI s = idx (fun x : CmdD => x.name.toList == lo.toList) TABLE) := ⟨by rw [hlo]; rfl⟩
  generalize findI s = fi at *
  clear hlo hs
  go_enter Try.func45, Try.ntmps45
  go_wp2_with (go_at_call 42; refine (refAll_calls _).mono ?_; rintro e w1 ⟨A, c, rfl, HF, hb1⟩; have HB := Aside0.mk hb1; clear hb1)
  go_loopw [5] (fun i wr => ∃ k : Nat, k ≤ 56 ∧ i = .int .i64 k ∧ Aside0 (Below w1.heap.size w1 wr) ∧ Aside0 (∀ j (hj : j < TABLE.length), j < k → (TABLE[j].name.toList == lo.toList) = false)) (fun i _ => 56 - (intOf i).toNat)
  case atStart => exact ⟨0, Nat.zero_le _, rfl, ⟨Below.refl _ _⟩, ⟨fun j _ hj => absurd hj (Nat.not_lt_zero _)⟩⟩
  case round =>
    obtain ⟨k, hkn, rfl, HBr, HA⟩ := hrel
    by_cases hlt : k < 56
    · have i0 : (k : Int) < 56 := by omega
      have i1 : (0 : Int) ≤ (k : Int) := by omega
      obtain ⟨ad, hl, rfl, c0, _, _⟩ := cmd_at (Kd.F_below HF.out HBr.out) k hlt
      obtain ⟨nm, hnm⟩ : ∃ nm, nm = TABLE[k].name := ⟨_, rfl⟩
      rw [← hnm] at c0
      have HNM := Aside0.mk hnm
      have KS : Aside0 (∀ w : World, Below w1.heap.size w1 w → w.cell? (ad.add (k * 3)) = some (.string nm)) := ⟨fun w hb => by
        obtain ⟨ad', _, e, c, _, _⟩ := cmd_at (Kd.F_below HF.out hb) k hlt
        injection e with e
        subst e
        rw [hnm]
        exact c⟩
      have HBW := HBr.out.drew
      clear hnm c0
      cases hp : (nm.toList == lo.toList)
      · have HP := Aside0.mk hp
        clear hp
        go_wp2_with fail
        refine start_ (n := 8) (S := fun w' => w'.cell? (ad.add (k * 3)) = some (.string nm)) (ds := []) #[false, false, false, false, false, false, false, false] (by kernel_rfl) rfl rfl (KS.out _ HBW) (fun hHeld => with_tabW find5_tab find5_bits (fun HT_ HW_ => ?_))
        generalize wr.drew = we at HBW hHeld ⊢
        refine pure_ (i := 0) (N := some 13) (v := ?_) (a' := ?_) #[true, false, false, false, false, false, false, false] rfl rfl (any_of HT_.out (by kernel_rfl)) (fun _ _ _ h => h) (Or.inl ⟨by rfl, ?_⟩) ?_ ?_
        rotate_left
        · intro w'
          go_simp
          with_reducible rfl
        rotate_left
        · simp only [Act.put, List.setIfInBounds_toArray, List.set_cons_zero, List.set_cons_succ, i64_w, i32_w]
          rfl
        refine pure_ (i := 1) (N := some 14) (v := ?_) (a' := ?_) #[true, true, false, false, false, false, false, false] rfl rfl (any_of HT_.out (by kernel_rfl)) (fun _ _ _ h => h) (Or.inl ⟨by rfl, ?_⟩) ?_ ?_
        rotate_left
        · intro w'
          go_simp
          with_reducible rfl
        rotate_left
        · simp only [Act.put, List.setIfInBounds_toArray, List.set_cons_zero, List.set_cons_succ, i64_w, i32_w]
          rfl
        refine pure_ (i := 2) (N := some 15) (v := ?_) (a' := ?_) #[true, true, true, false, false, false, false, false] rfl rfl (any_of HT_.out (by kernel_rfl)) (fun _ _ _ h => h) (Or.inl ⟨by rfl, ?_⟩) ?_ ?_
        rotate_left
        · intro w'
          go_simp
          with_reducible rfl
        rotate_left
        · simp only [Act.put, List.setIfInBounds_toArray, List.set_cons_zero, List.set_cons_succ, i64_w, i32_w]
          rfl
        refine pure_ (i := 3) (N := some 16) (v := ?_) (a' := ?_) #[true, true, true, true, false, false, false, false] rfl rfl (any_of HT_.out (by kernel_rfl)) (fun _ _ _ h => h) (Or.inl ⟨by rfl, ?_⟩) ?_ ?_
        rotate_left
        · intro w'
          go_simp
          with_reducible rfl
        rotate_left
        · simp only [Act.put, List.setIfInBounds_toArray, List.set_cons_zero, List.set_cons_succ, i64_w, i32_w]
          rfl
        refine take_ (i := 4) (N := some 17) (v := ?_) (a' := ?_) #[true, true, true, true, true, false, false, false] rfl rfl (take_ofW HT_.out HW_.out (by kernel_rfl)) (fun _ _ _ h => h) (Or.inl ⟨by rfl, ?_⟩) hHeld ?_ ?_
        rotate_left
        · rintro w' s0
          go_simp
          with_reducible rfl
        rotate_left
        · simp only [Act.put, List.setIfInBounds_toArray, List.set_cons_zero, List.set_cons_succ, i64_w, i32_w]
          rfl
        refine pure_ (i := 5) (N := some 18) (v := ?_) (a' := ?_) #[true, true, true, true, true, true, false, false] rfl rfl (any_of HT_.out (by kernel_rfl)) (fun _ _ _ h => h) (Or.inl ⟨by rfl, ?_⟩) ?_ ?_
        rotate_left
        · intro w'
          go_simp
          with_reducible rfl
        rotate_left
        · simp only [Act.put, List.setIfInBounds_toArray, List.set_cons_zero, List.set_cons_succ, i64_w, i32_w]
          rfl
        refine one_ (i := 6) (N := some 19) #[true, true, true, true, true, true, true, false] rfl rfl (one_of HT_.out (by kernel_rfl)) (by decide) (fun K hK => ?_)
        refine goes_ Try.func21 (by kernel_rfl) rfl #[.string s] (by rfl) rfl rfl (by first | rfl | (simp [Act.eval]; done) | kernel_rfl) ?_
        refine (LW.out _).mono ?_
        rintro e w7 ⟨rfl, hb7⟩
        have HBW := step2 HBW hb7
        clear hb7
        refine ⟨_, rfl, ?_⟩
        refine hK.out _ _ (KS.out _ HBW) (fun hHeld => ?_)
        clear hK K
        refine norm_ (a' := ?_) ?_ ?_
        rotate_left
        · show Act.put _ (some 19) _ = _
          simp only [Act.put, List.setIfInBounds_toArray, List.set_cons_zero, List.set_cons_succ, i64_w, i32_w]
          rfl
        refine pure_ (i := 7) (N := some 20) (v := ?_) (a' := ?_) #[true, true, true, true, true, true, true, true] rfl rfl (any_of HT_.out (by kernel_rfl)) (fun _ _ _ h => h) (Or.inl ⟨by rfl, ?_⟩) ?_ ?_
        rotate_left
        · intro w'
          go_simp
          rw [HP.out]
        rotate_left
        · simp only [Act.put, List.setIfInBounds_toArray, List.set_cons_zero, List.set_cons_succ, i64_w, i32_w]
          rfl
        refine done_ (done_of HT_.out (by kernel_rfl)) ?_
        go_wp2_with fail
        go_roundw
        case rel => exact ⟨k + 1, by omega, by go_num, ⟨HBW⟩, ⟨fun j hj hlt' => by
          rcases Nat.lt_succ_iff_lt_or_eq.1 hlt' with h1 | h1
          · exact HA.out j hj h1
          · subst h1; rw [← HNM.out]; exact HP.out⟩⟩
        case measure => simp [intOf]; omega
      · have HP := Aside0.mk hp
        clear hp
        go_wp2_with fail
        refine start_ (n := 8) (S := fun w' => w'.cell? (ad.add (k * 3)) = some (.string nm)) (ds := []) #[false, false, false, false, false, false, false, false] (by kernel_rfl) rfl rfl (KS.out _ HBW) (fun hHeld => with_tabW find5_tab find5_bits (fun HT_ HW_ => ?_))
        generalize wr.drew = we at HBW hHeld ⊢
        refine pure_ (i := 0) (N := some 13) (v := ?_) (a' := ?_) #[true, false, false, false, false, false, false, false] rfl rfl (any_of HT_.out (by kernel_rfl)) (fun _ _ _ h => h) (Or.inl ⟨by rfl, ?_⟩) ?_ ?_
        rotate_left
        · intro w'
          go_simp
          with_reducible rfl
        rotate_left
        · simp only [Act.put, List.setIfInBounds_toArray, List.set_cons_zero, List.set_cons_succ, i64_w, i32_w]
          rfl
        refine pure_ (i := 1) (N := some 14) (v := ?_) (a' := ?_) #[true, true, false, false, false, false, false, false] rfl rfl (any_of HT_.out (by kernel_rfl)) (fun _ _ _ h => h) (Or.inl ⟨by rfl, ?_⟩) ?_ ?_
        rotate_left
        · intro w'
          go_simp
          with_reducible rfl
        rotate_left
        · simp only [Act.put, List.setIfInBounds_toArray, List.set_cons_zero, List.set_cons_succ, i64_w, i32_w]
          rfl
        refine pure_ (i := 2) (N := some 15) (v := ?_) (a' := ?_) #[true, true, true, false, false, false, false, false] rfl rfl (any_of HT_.out (by kernel_rfl)) (fun _ _ _ h => h) (Or.inl ⟨by rfl, ?_⟩) ?_ ?_
        rotate_left
        · intro w'
          go_simp
          with_reducible rfl
        rotate_left
        · simp only [Act.put, List.setIfInBounds_toArray, List.set_cons_zero, List.set_cons_succ, i64_w, i32_w]
          rfl
        refine pure_ (i := 3) (N := some 16) (v := ?_) (a' := ?_) #[true, true, true, true, false, false, false, false] rfl rfl (any_of HT_.out (by kernel_rfl)) (fun _ _ _ h => h) (Or.inl ⟨by rfl, ?_⟩) ?_ ?_
        rotate_left
        · intro w'
          go_simp
          with_reducible rfl
        rotate_left
        · simp only [Act.put, List.setIfInBounds_toArray, List.set_cons_zero, List.set_cons_succ, i64_w, i32_w]
          rfl
        refine take_ (i := 4) (N := some 17) (v := ?_) (a' := ?_) #[true, true, true, true, true, false, false, false] rfl rfl (take_ofW HT_.out HW_.out (by kernel_rfl)) (fun _ _ _ h => h) (Or.inl ⟨by rfl, ?_⟩) hHeld ?_ ?_
        rotate_left
        · rintro w' s0
          go_simp
          with_reducible rfl
        rotate_left
        · simp only [Act.put, List.setIfInBounds_toArray, List.set_cons_zero, List.set_cons_succ, i64_w, i32_w]
          rfl
        refine pure_ (i := 5) (N := some 18) (v := ?_) (a' := ?_) #[true, true, true, true, true, true, false, false] rfl rfl (any_of HT_.out (by kernel_rfl)) (fun _ _ _ h => h) (Or.inl ⟨by rfl, ?_⟩) ?_ ?_
        rotate_left
        · intro w'
          go_simp
          with_reducible rfl
        rotate_left
        · simp only [Act.put, List.setIfInBounds_toArray, List.set_cons_zero, List.set_cons_succ, i64_w, i32_w]
          rfl
        refine one_ (i := 6) (N := some 19) #[true, true, true, true, true, true, true, false] rfl rfl (one_of HT_.out (by kernel_rfl)) (by decide) (fun K hK => ?_)
        refine goes_ Try.func21 (by kernel_rfl) rfl #[.string s] (by rfl) rfl rfl (by first | rfl | (simp [Act.eval]; done) | kernel_rfl) ?_
        refine (LW.out _).mono ?_
        rintro e w7 ⟨rfl, hb7⟩
        have HBW := step2 HBW hb7
        clear hb7
        refine ⟨_, rfl, ?_⟩
        refine hK.out _ _ (KS.out _ HBW) (fun hHeld => ?_)
        clear hK K
        refine norm_ (a' := ?_) ?_ ?_
        rotate_left
        · show Act.put _ (some 19) _ = _
          simp only [Act.put, List.setIfInBounds_toArray, List.set_cons_zero, List.set_cons_succ, i64_w, i32_w]
          rfl
        refine pure_ (i := 7) (N := some 20) (v := ?_) (a' := ?_) #[true, true, true, true, true, true, true, true] rfl rfl (any_of HT_.out (by kernel_rfl)) (fun _ _ _ h => h) (Or.inl ⟨by rfl, ?_⟩) ?_ ?_
        rotate_left
        · intro w'
          go_simp
          rw [HP.out]
        rotate_left
        · simp only [Act.put, List.setIfInBounds_toArray, List.set_cons_zero, List.set_cons_succ, i64_w, i32_w]
          rfl
        refine done_ (done_of HT_.out (by kernel_rfl)) ?_
        go_wp2_with fail
        have e1 : fi = (k : Int) := by rw [HFI.out]; exact idx_hit _ _ k hl (by rw [← HNM.out]; exact HP.out) (fun j hj => HA.out j (by omega) hj)
        have e2 : decide (0 ≤ fi) = true := by rw [e1]; simp
        refine bodyPost_ret (v := .tuple #[.int .i64 k, .bool true]) (by simp [results, Try.results45, go_sem]) rfl ?_
        exact ⟨by rw [e2, e1], step2 HB.out HBW⟩
    · have i0 : ¬ (k : Int) < 56 := by omega
      have e1 : fi = -1 := by rw [HFI.out]; exact idx_miss _ _ (fun j hj => HA.out j hj (by have h : TABLE.length = 56 := table_length; omega))
      have e2 : decide (0 ≤ fi) = false := by rw [e1]; rfl
      have E := Aside0.mk e1
      clear e1
      go_wp2_with fail
      refine bodyPost_ret (v := .tuple #[.int .i64 (-1), .bool false]) (by simp [results, Try.results45, go_sem]) rfl ?_
      exact ⟨by rw [E.out], step2 HB.out HBr.out⟩
end Go.Proofs.Ytflnpgfddedahaa.U
