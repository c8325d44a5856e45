/- The reference's Small: walked by hand; what it comes to, as lists. -/
import Derived.Test.YtbjhpmifjiibaaaT18
import Derived.Test.YtbjhpmifjiibaaaWTab
namespace Go.Proofs.Ytbjhpmifjiibaaa.T
open Go.RowKit Go.Maps Go.Proofs.YtbjhpmifjiibaaaW.PrintWords Go.Proofs.YtbjhpmifjiibaaaW.PrintLast Go.Proofs.YtbjhpmifjiibaaaW.PrintMore
attribute [local go_sem] max2_int min2_int max_two min_two max_three min_three
set_option linter.unusedVariables false
set_option linter.unusedSimpArgs false

def smallQ (qs : List (List ByteArray)) : List (List ByteArray) := (qs.take 10).map (·.take 10)
def heads (qs : List (List ByteArray)) (k : Nat) : List (List ByteArray) := (qs.take k).map (·.take 10)
theorem heads_succ (qs : List (List ByteArray)) (k : Nat) (h : k < qs.length) : heads qs (k + 1) = heads qs k ++ [qs[k].take 10] := by
  unfold heads
  rw [List.take_succ_eq_append_getElem h, List.map_append]
  rfl
theorem heads_length (qs : List (List ByteArray)) (k : Nat) (h : k ≤ qs.length) : (heads qs k).length = k := by
  unfold heads
  rw [List.length_map, List.length_take]
  omega
theorem heads_all (qs : List (List ByteArray)) (k : Nat) (h : k = 10 ∨ (k ≤ 10 ∧ qs.length ≤ k)) : heads qs k = smallQ qs := by
  unfold heads smallQ
  rcases h with h | ⟨h1, h2⟩
  · rw [h]
  · rw [List.take_of_length_le h2, List.take_of_length_le (by omega)]
theorem take_ten {row : List ByteArray} {p : Nat} (hp : (if (10 : Int) < (row.length : Int) then (10 : Int) else (row.length : Int)) = (p : Int)) : row.take p = row.take 10 := by
  split at hp
  · rw [show p = 10 by omega]
  · rw [List.take_of_length_le (by omega), List.take_of_length_le (by omega)]
theorem take_ten' {row : List SeenD} {p : Nat} (hp : (if (10 : Int) < (row.length : Int) then (10 : Int) else (row.length : Int)) = (p : Int)) : row.take p = row.take 10 := by
  split at hp
  · rw [show p = 10 by omega]
  · rw [List.take_of_length_le (by omega), List.take_of_length_le (by omega)]
def small5T : Bool × List (List Nat × List Nat) := (true, [([], []), ([0], [0]), ([], []), ([], []), ([3], [3]), ([], []), ([4, 5], [4, 5]), ([6], [6]), ([], []), ([8], [8]), ([], []), ([9, 10], [9, 10]), ([11], [11]), ([12], [12]), ([13], [13]), ([7, 14], [7, 14]), ([2, 15], [2, 15]), ([16], [16]), ([1, 17, 16], [1, 17]), ([0, 1, 2, 3, 4, 5, 6, 7, 8, 9, 10, 11, 12, 13, 14, 15, 16, 17, 18], []), ([19, 18, 18, 0, 1, 2, 3, 4, 5, 6, 7, 8, 9, 10, 11, 12, 13, 14, 15, 16, 17, 18], [18, 19])])
def small5B : List Nat := [0, 1, 0, 0, 8, 0, 56, 120, 0, 256, 0, 1792, 3840, 7936, 16128, 32760, 65532, 131068, 262143, 524287, 1048575]
theorem small5_tab : rtab .any (opsOf Try.f15 5) = small5T := by kernel_rfl
theorem small5_bits : waitsOk small5T.2 small5B = true := by kernel_rfl
def small6T : Bool × List (List Nat × List Nat) := (true, [([], []), ([0], [0]), ([], []), ([2], [2]), ([], []), ([4], [4]), ([5], [5]), ([6], [6]), ([3, 7], [3, 7]), ([1, 8], [1, 8]), ([0, 1, 2, 3, 4, 5, 6, 7, 8, 9], []), ([10, 9, 9, 0, 1, 2, 3, 4, 5, 6, 7, 8, 9], [9, 10])])
def small6B : List Nat := [0, 1, 0, 4, 0, 16, 48, 112, 252, 511, 1023, 2047]
theorem small6_tab : rtab .any (opsOf Try.f15 6) = small6T := by kernel_rfl
theorem small6_bits : waitsOk small6T.2 small6B = true := by kernel_rfl

theorem third_at (w : World) (o p : Obj) (cells : Array Value) : (((w.alloc o).alloc p).alloc (.cells cells 26)).heap[w.heap.size + 1 + 1]? = some (.cells cells 26 (0, 0)) := by
  have h := blk_new ((w.alloc o).alloc p) (.cells cells 26)
  simpa using h
set_option maxHeartbeats 4000000 in
set_option maxRecDepth 100000 in
theorem small_calls (on bad : Bool) (Aq : Option Addr) (nq cq : Nat) (As : Option Addr) (ns cs : Nat) (okq oks : Nat → Prop) (qs : List (List ByteArray)) (ss : List SeenD) (w : World) (hq : Kd.F kRows w okq Aq nq qs) (hs : Kd.F kSeen w oks As ns ss) (hcq : nq ≤ cq) (hcs : ns ≤ cs) :
    Calls Try.prog 15 #[tx on bad Aq nq cq As ns cs] w fun e w' => ∃ A' c' B' d', e = .returned (tx on bad A' (smallQ qs).length c' B' (ss.take 10).length d') ∧ Aside0 (Kd.F kRows w' (fun _ => True) A' (smallQ qs).length (smallQ qs)) ∧ Aside0 (Kd.F kSeen w' (fun _ => True) B' (ss.take 10).length (ss.take 10)) ∧ (smallQ qs).length ≤ c' ∧ (ss.take 10).length ≤ d' ∧ Below w.heap.size w w' := by
  have HQ := Aside0.mk hq
  have HS := Aside0.mk hs
  have HLQ := Aside0.mk (Kd.F_len hq)
  have HLS := Aside0.mk (Kd.F_len hs)
  have hmq := Kd.F_max hq
  have hms := Kd.F_max hs
  clear hq hs
  go_enter Try.func15, Try.ntmps15
  go_wp2_with fail
  go_loopw [4] (fun i wr => ∃ (k : Nat) (A : Option Addr) (c : Nat), k ≤ nq ∧ k ≤ 10 ∧ i = .int .i64 k ∧ Aside0 (wr.heap[w.heap.size]? = some (.cells #[.bool on, .bool bad, .slice Aq nq cq, .slice As ns cs] 26 (0, 0))) ∧ Aside0 (wr.heap[w.heap.size + 1]? = some (.cells #[.bool false, .bool false, .slice none 0 0, .slice none 0 0] 26 (0, 0))) ∧ Aside0 (wr.heap[w.heap.size + 1 + 1]? = some (.cells #[.bool on, .bool bad, .slice A k c, .slice none 0 0] 26 (0, 0))) ∧ Aside0 (Kd.N kRows 30 wr w.heap.size (fun b => w.heap.size + 1 + 1 < b) (.slice A k c) (heads qs k)) ∧ Aside0 (Below w.heap.size w wr)) (fun i _ => 10 - (intOf i).toNat)
  case atStart => exact ⟨0, none, 0, Nat.zero_le _, Nat.zero_le _, rfl, ⟨blk_alloc (blk_alloc (blk_new w _) _) _⟩, ⟨blk_alloc (second_at w _ _) _⟩, ⟨third_at w _ _ _⟩, ⟨Kd.N_nil _ _ _ _ _⟩, ⟨below_alloc (below_alloc (below_alloc (Below.refl _ _) _) _) _⟩⟩
  case round =>
    obtain ⟨k, A, c, hkn, hk10, rfl, HX, HY, HZ, HN, HB⟩ := hrel
    have hgs : w.heap.size + 1 + 1 < wr.heap.size := blk_lt HZ.out
    have HBd := Aside0.mk HB.out.drew
    have HXd : Aside0 (wr.drew.heap[w.heap.size]? = some (.cells #[.bool on, .bool bad, .slice Aq nq cq, .slice As ns cs] 26 (0, 0))) := ⟨HX.out⟩
    have HYd : Aside0 (wr.drew.heap[w.heap.size + 1]? = some (.cells #[.bool false, .bool false, .slice none 0 0, .slice none 0 0] 26 (0, 0))) := ⟨HY.out⟩
    have HZd : Aside0 (wr.drew.heap[w.heap.size + 1 + 1]? = some (.cells #[.bool on, .bool bad, .slice A k c, .slice none 0 0] 26 (0, 0))) := ⟨HZ.out⟩
    have HNd := Aside0.mk (Kd.N_drew HN.out)
    have hgd : w.heap.size + 1 + 1 < wr.drew.heap.size := hgs
    obtain ⟨x0, x1, x2, x3, xf⟩ := cells4 HX.out
    by_cases hb : k < nq ∧ k < 10
    · obtain ⟨hlt, hlt10⟩ := hb
      obtain ⟨ad, hl, Ar, cr, rfl, hc0, hcr, hF⟩ := rows_at HQ.out k hlt
      obtain ⟨row, hrow⟩ : ∃ row, row = qs[k] := ⟨_, rfl⟩
      rw [← hrow] at hc0 hcr hF
      obtain ⟨p, hp⟩ : ∃ p : Nat, (if (10 : Int) < (row.length : Int) then (10 : Int) else (row.length : Int)) = (p : Int) := ⟨min row.length 10, by split <;> omega⟩
      have hp1 : p ≤ 10 := by split at hp <;> omega
      have hp2 : p ≤ row.length := by split at hp <;> omega
      have hp3 : p ≤ cr := by omega
      obtain ⟨rt, hrt⟩ : ∃ rt, rt = row.take 10 := ⟨_, rfl⟩
      have FT := Aside0.mk (show Kd.F Kd.string w okq Ar p rt from by
        rw [hrt]
        have h1 := Kd.F_take hF hp2
        rw [take_ten hp, List.length_take] at h1
        have h2 : min 10 row.length = p := by split at hp <;> omega
        rwa [h2] at h1)
      have HE := Aside0.mk (show heads qs k ++ [rt] = heads qs (k + 1) from by rw [heads_succ qs k hl, hrt, hrow])
      have HL1 := Aside0.mk (heads_length qs (k + 1) hl)
      have HL0 := Aside0.mk (heads_length qs k (Nat.le_of_lt hl))
      have i0 : (k : Int) < (nq : Int) := by omega
      have i1 : (0 : Int) ≤ (k : Int) := by omega
      have i2 : (k : Int) < 10 := by omega
      have KS : ∀ W, Below w.heap.size w W → W.heap[w.heap.size]? = some (.cells #[.bool on, .bool bad, .slice (some ad) nq cq, .slice As ns cs] 26 (0, 0)) → W.heap[w.heap.size + 1 + 1]? = some (.cells #[.bool on, .bool bad, .slice A k c, .slice none 0 0] 26 (0, 0)) → W.cell? ⟨w.heap.size + 1 + 1, 2, none⟩ = some (.slice A k c) ∧ W.cell? ⟨w.heap.size, 2, none⟩ = some (.slice (some ad) nq cq) ∧ W.cell? (ad.add k) = some (.slice Ar row.length cr) := fun W h1 h2 h3 =>
        ⟨(cells4 h3).2.2.1, (cells4 h2).2.2.1, pw_cell_below h1 hc0⟩
      have HKS := Aside0.mk KS
      clear KS hrow hrt hF hc0 HX HY HZ HN HB
      go_wp2_with fail
      refine start_ (n := 21) (S := fun w' => w'.cell? ⟨w.heap.size + 1 + 1, 2, none⟩ = some (.slice A k c) ∧ w'.cell? ⟨w.heap.size, 2, none⟩ = some (.slice (some ad) nq cq) ∧ w'.cell? (ad.add k) = some (.slice Ar row.length cr)) (ds := [20]) #[false, false, false, false, false, false, false, false, false, false, false, false, false, false, false, false, false, false, false, false, false] (by kernel_rfl) rfl rfl (HKS.out _ HBd.out HXd.out HZd.out) (fun hHeld => with_tabW small5_tab small5_bits (fun HT_ HW_ => ?_))
      generalize wr.drew = wd at HBd HXd HYd HZd HNd hgd hHeld ⊢
      clear x0 x1 x2 x3 xf
      refine pure_ (i := 0) (N := some 21) (v := ?_) (a' := ?_) #[true, false, false, false, false, false, false, false, false, false, false, false, false, false, false, false, false, false, false, false, false] rfl rfl (any_of HT_.out (by kernel_rfl)) (fun _ _ _ h => h) (Or.inl ⟨by rfl, ?_⟩) ?_ ?_
      rotate_left
      · intro w'
        go_simp
        with_reducible rfl
      rotate_left
      · simp only [Act.put, List.setIfInBounds_toArray, List.set_cons_zero, List.set_cons_succ, i64_w, i32_w]
        rfl
      refine pure_ (i := 3) (N := some 24) (v := ?_) (a' := ?_) #[true, false, false, true, false, false, false, false, false, false, false, false, false, false, false, false, false, false, false, false, false] rfl rfl (any_of HT_.out (by kernel_rfl)) (fun _ _ _ h => h) (Or.inl ⟨by rfl, ?_⟩) ?_ ?_
      rotate_left
      · intro w'
        go_simp
        with_reducible rfl
      rotate_left
      · simp only [Act.put, List.setIfInBounds_toArray, List.set_cons_zero, List.set_cons_succ, i64_w, i32_w]
        rfl
      refine pure_ (i := 5) (N := some 26) (v := ?_) (a' := ?_) #[true, false, false, true, false, true, false, false, false, false, false, false, false, false, false, false, false, false, false, false, false] rfl rfl (any_of HT_.out (by kernel_rfl)) (fun _ _ _ h => h) (Or.inl ⟨by rfl, ?_⟩) ?_ ?_
      rotate_left
      · intro w'
        go_simp
        with_reducible rfl
      rotate_left
      · simp only [Act.put, List.setIfInBounds_toArray, List.set_cons_zero, List.set_cons_succ, i64_w, i32_w]
        rfl
      refine pure_ (i := 8) (N := some 29) (v := ?_) (a' := ?_) #[true, false, false, true, false, true, false, false, true, false, false, false, false, false, false, false, false, false, false, false, false] rfl rfl (any_of HT_.out (by kernel_rfl)) (fun _ _ _ h => h) (Or.inl ⟨by rfl, ?_⟩) ?_ ?_
      rotate_left
      · intro w'
        go_simp
        with_reducible rfl
      rotate_left
      · simp only [Act.put, List.setIfInBounds_toArray, List.set_cons_zero, List.set_cons_succ, i64_w, i32_w]
        rfl
      refine pure_ (i := 10) (N := some 31) (v := ?_) (a' := ?_) #[true, false, false, true, false, true, false, false, true, false, true, false, false, false, false, false, false, false, false, false, false] rfl rfl (any_of HT_.out (by kernel_rfl)) (fun _ _ _ h => h) (Or.inl ⟨by rfl, ?_⟩) ?_ ?_
      rotate_left
      · intro w'
        go_simp
        with_reducible rfl
      rotate_left
      · simp only [Act.put, List.setIfInBounds_toArray, List.set_cons_zero, List.set_cons_succ, i64_w, i32_w]
        rfl
      refine take_ (i := 1) (N := some 22) (v := ?_) (a' := ?_) #[true, true, false, true, false, true, false, false, true, false, true, false, false, false, false, false, false, false, false, false, false] rfl rfl (take_ofW HT_.out HW_.out (by kernel_rfl)) (fun _ _ _ h => h) (Or.inl ⟨by rfl, ?_⟩) hHeld ?_ ?_
      rotate_left
      · rintro w' ⟨s0, s1, s2⟩
        go_simp
        with_reducible rfl
      rotate_left
      · simp only [Act.put, List.setIfInBounds_toArray, List.set_cons_zero, List.set_cons_succ, i64_w, i32_w]
        rfl
      refine take_ (i := 4) (N := some 25) (v := ?_) (a' := ?_) #[true, true, false, true, true, true, false, false, true, false, true, false, false, false, false, false, false, false, false, false, false] rfl rfl (take_ofW HT_.out HW_.out (by kernel_rfl)) (fun _ _ _ h => h) (Or.inl ⟨by rfl, ?_⟩) hHeld ?_ ?_
      rotate_left
      · rintro w' ⟨s0, s1, s2⟩
        go_simp
        with_reducible rfl
      rotate_left
      · simp only [Act.put, List.setIfInBounds_toArray, List.set_cons_zero, List.set_cons_succ, i64_w, i32_w]
        rfl
      refine pure_ (i := 6) (N := some 27) (v := ?_) (a' := ?_) #[true, true, false, true, true, true, true, false, true, false, true, false, false, false, false, false, false, false, false, false, false] rfl rfl (any_of HT_.out (by kernel_rfl)) (fun _ _ _ h => h) (Or.inl ⟨by rfl, ?_⟩) ?_ ?_
      rotate_left
      · intro w'
        go_simp
        with_reducible rfl
      rotate_left
      · simp only [Act.put, List.setIfInBounds_toArray, List.set_cons_zero, List.set_cons_succ, i64_w, i32_w]
        rfl
      refine take_ (i := 7) (N := some 28) (v := ?_) (a' := ?_) #[true, true, false, true, true, true, true, true, true, false, true, false, false, false, false, false, false, false, false, false, false] rfl rfl (take_ofW HT_.out HW_.out (by kernel_rfl)) (fun _ _ _ h => h) (Or.inl ⟨by rfl, ?_⟩) hHeld ?_ ?_
      rotate_left
      · rintro w' ⟨s0, s1, s2⟩
        go_simp
        with_reducible rfl
      rotate_left
      · simp only [Act.put, List.setIfInBounds_toArray, List.set_cons_zero, List.set_cons_succ, i64_w, i32_w]
        rfl
      refine take_ (i := 9) (N := some 30) (v := ?_) (a' := ?_) #[true, true, false, true, true, true, true, true, true, true, true, false, false, false, false, false, false, false, false, false, false] rfl rfl (take_ofW HT_.out HW_.out (by kernel_rfl)) (fun _ _ _ h => h) (Or.inl ⟨by rfl, ?_⟩) hHeld ?_ ?_
      rotate_left
      · rintro w' ⟨s0, s1, s2⟩
        go_simp
        with_reducible rfl
      rotate_left
      · simp only [Act.put, List.setIfInBounds_toArray, List.set_cons_zero, List.set_cons_succ, i64_w, i32_w]
        rfl
      refine pure_ (i := 11) (N := some 32) (v := ?_) (a' := ?_) #[true, true, false, true, true, true, true, true, true, true, true, true, false, false, false, false, false, false, false, false, false] rfl rfl (any_of HT_.out (by kernel_rfl)) (fun _ _ _ h => h) (Or.inl ⟨by rfl, ?_⟩) ?_ ?_
      rotate_left
      · intro w'
        go_simp
        with_reducible rfl
      rotate_left
      · simp only [Act.put, List.setIfInBounds_toArray, List.set_cons_zero, List.set_cons_succ, i64_w, i32_w]
        rfl
      refine take_ (i := 12) (N := some 33) (v := ?_) (a' := ?_) #[true, true, false, true, true, true, true, true, true, true, true, true, true, false, false, false, false, false, false, false, false] rfl rfl (take_ofW HT_.out HW_.out (by kernel_rfl)) (fun _ _ _ h => h) (Or.inl ⟨by rfl, ?_⟩) hHeld ?_ ?_
      rotate_left
      · rintro w' ⟨s0, s1, s2⟩
        go_simp
        with_reducible rfl
      rotate_left
      · simp only [Act.put, List.setIfInBounds_toArray, List.set_cons_zero, List.set_cons_succ, i64_w, i32_w]
        rfl
      refine pure_ (i := 13) (N := some 34) (v := ?_) (a' := ?_) #[true, true, false, true, true, true, true, true, true, true, true, true, true, true, false, false, false, false, false, false, false] rfl rfl (any_of HT_.out (by kernel_rfl)) (fun _ _ _ h => h) (Or.inl ⟨by rfl, ?_⟩) ?_ ?_
      rotate_left
      · intro w'
        go_simp
        with_reducible rfl
      rotate_left
      · simp only [Act.put, List.setIfInBounds_toArray, List.set_cons_zero, List.set_cons_succ, i64_w, i32_w]
        rfl
      refine pure_ (i := 14) (N := some 35) (v := ?_) (a' := ?_) #[true, true, false, true, true, true, true, true, true, true, true, true, true, true, true, false, false, false, false, false, false] rfl rfl (any_of HT_.out (by kernel_rfl)) (fun _ _ _ h => h) (Or.inl ⟨by rfl, ?_⟩) ?_ ?_
      rotate_left
      · intro w'
        go_simp
        with_reducible rfl
      rotate_left
      · simp only [Act.put, List.setIfInBounds_toArray, List.set_cons_zero, List.set_cons_succ, i64_w, i32_w]
        rfl
      refine pure_ (i := 15) (N := some 36) (v := ?_) (a' := ?_) #[true, true, false, true, true, true, true, true, true, true, true, true, true, true, true, true, false, false, false, false, false] rfl rfl (any_of HT_.out (by kernel_rfl)) (fun _ _ _ h => h) (Or.inl ⟨by rfl, ?_⟩) ?_ ?_
      rotate_left
      · intro w'
        go_simp
        with_reducible rfl
      rotate_left
      · simp only [Act.put, List.setIfInBounds_toArray, List.set_cons_zero, List.set_cons_succ, i64_w, i32_w]
        rfl
      refine one_ (i := 2) (N := some 23) #[true, true, true, true, true, true, true, true, true, true, true, true, true, true, true, true, false, false, false, false, false] rfl rfl (one_of HT_.out (by kernel_rfl)) (by decide) (fun K hK => ?_)
      refine Kd.N_lit_step Kd.string (w0 := wd) wd.heap.size 9 ?hw (N' := 23) ?hd (xs := ([] : List ByteArray)) (inner := []) (ok := fun b => (okq b ∧ b < w.heap.size) ∨ wd.heap.size ≤ b) (okp := fun _ => False) ?hr ?hp (fun _ h => h.elim) (.inr (Nat.le_refl _)) (Below.refl _ _) (Nat.le_refl _) (by simp) ?_
      (case hw => rfl)
      (case hd => rfl)
      (case hr => first | (go_simp; done) | (go_simp; rfl))
      (case hp => exact Reps.none _ _)
      intro v1 w2 hN1 hb1 hg1 hv1
      have HN1 := Aside0.mk hN1
      have HD1 := Aside0.mk hb1
      clear hN1 hb1 hg1 hv1
      refine hK.out _ _ (HKS.out _ (step2 HBd.out HD1.out) (blk_below HXd.out HD1.out) (blk_below HZd.out HD1.out)) (fun hHeld => ?_)
      clear hK K
      refine norm_ (a' := ?_) ?_ ?_
      rotate_left
      · show Act.put _ (some 23) _ = _
        simp only [Act.put, List.setIfInBounds_toArray, List.set_cons_zero, List.set_cons_succ, i64_w, i32_w]
        rfl
      refine one_ (i := 16) (N := some 37) #[true, true, true, true, true, true, true, true, true, true, true, true, true, true, true, true, true, false, false, false, false] rfl rfl (one_of HT_.out (by kernel_rfl)) (by decide) (fun K hK => ?_)
      refine Kd.N_append_rows_step Kd.string (w0 := wd) wd.heap.size ?hw (.tmp 23) (.tmp 36) 30 9 (.string ⟨#[]⟩) 16 ?ho Try.underlying30 info9 ?hz (by decide) (by decide) v1 [] rt Ar p cr (fun b => (okq b ∧ b < w.heap.size) ∨ wd.heap.size ≤ b) (fun b => okq b ∧ b < w.heap.size) ?hs ?hx HN1.out ?hF ?hokp ?hfresh HD1.out HD1.out.size ?hl ?_
      (case hw => rfl)
      (case ho => rfl)
      (case hz => rfl)
      (case hs => rfl)
      (case hx => rfl)
      (case hF => exact Kd.F_old FT.out (step2 HBd.out HD1.out))
      (case hokp => exact fun b hb => ⟨.inl hb, ne_own (by have := hb.2; omega) (Kd.N_base HN1.out)⟩)
      (case hfresh => exact fun b hb => .inr (Nat.le_trans HD1.out.size hb))
      (case hl => simp; omega)
      intro v2 w3 hN2 hb2 hg2 hv2
      rw [List.nil_append] at hN2
      obtain ⟨A2, c2, rfl⟩ := Kd.N_slice hN2
      have HN2 := Aside0.mk (N_flat flat_string hN2 (Kd.N_base hN2))
      have HB2 := Aside0.mk hb2
      have hz2 : wd.heap.size ≤ w3.heap.size := hb2.size
      clear hN2 hb2 hg2 hv2 HN1
      refine hK.out _ _ (HKS.out _ (step2 HBd.out HB2.out) (blk_below HXd.out HB2.out) (blk_below HZd.out HB2.out)) (fun hHeld => ?_)
      clear hK K
      refine norm_ (a' := ?_) ?_ ?_
      rotate_left
      · show Act.put _ (some 37) _ = _
        simp only [Act.put, List.setIfInBounds_toArray, List.set_cons_zero, List.set_cons_succ, i64_w, i32_w]
        rfl
      refine one_ (i := 17) (N := some 38) #[true, true, true, true, true, true, true, true, true, true, true, true, true, true, true, true, true, true, false, false, false] rfl rfl (one_of HT_.out (by kernel_rfl)) (by decide) (fun K hK => ?_)
      refine value_ (w1 := ?_) (v := ?_) (by rfl) rfl ?_ ?_
      rotate_left 2
      · go_simp
        constructor
        · rfl
        · rfl
      refine hK.out _ _ (HKS.out _ (below_alloc (step2 HBd.out HB2.out) _) (blk_alloc (blk_below HXd.out HB2.out) _) (blk_alloc (blk_below HZd.out HB2.out) _)) (fun hHeld => ?_)
      clear hK K
      refine norm_ (a' := ?_) ?_ ?_
      rotate_left
      · show Act.put _ (some 38) _ = _
        simp only [Act.put, List.setIfInBounds_toArray, List.set_cons_zero, List.set_cons_succ, i64_w, i32_w]
        rfl
      refine one_ (i := 18) (N := some 39) #[true, true, true, true, true, true, true, true, true, true, true, true, true, true, true, true, true, true, true, false, false] rfl rfl (one_of HT_.out (by kernel_rfl)) (by decide) (fun K hK => ?_)
      refine Kd.N_append_step kRows (w0 := w) w.heap.size ?hw (.tmp 22) (.tmp 38) 22 30 (.slice none 0 0) 24 ?ho Try.underlying22 info30 ?hz (by decide) (by decide) (.slice A k c) (heads qs k) rt [.slice A2 rt.length c2] (fun b => w.heap.size + 1 + 1 < b) (fun b => wd.heap.size ≤ b) ?hs ?hx ?hp ?hokp ?hfresh ?hO ?hB ?hbase ?hl ?_
      (case hw => rfl)
      (case ho => rfl)
      (case hz => rfl)
      (case hs => rfl)
      (case hx => rfl)
      (case hp => exact Kd.FK_slice_mk (Kd.N_reads' HN2.out).2.1 (Kd.N_F HN2.out))
      (case hokp => exact fun b hb => ⟨by omega, fun e => by have := Kd.N_lt HNd.out b e.symm; omega⟩)
      (case hfresh => exact fun b hb => by omega)
      (case hO => exact Kd.N_below HNd.out HB2.out)
      (case hB => exact step2 HBd.out HB2.out)
      (case hbase => exact (step2 HBd.out HB2.out).size)
      (case hl => rw [HL0.out]; omega)
      intro v3 w4 hN3 hb3 hg3 hv3
      rw [HE.out] at hN3
      obtain ⟨A3, c3, he3⟩ := Kd.N_slice hN3
      rw [HL1.out] at he3
      subst he3
      have X4 := Aside0.mk (blk_grown (blk_below HXd.out HB2.out) hg3 (Kd.N_away HNd.out (fun b hb => by omega)))
      have Y4 := Aside0.mk (blk_grown (blk_below HYd.out HB2.out) hg3 (Kd.N_away HNd.out (fun b hb => by omega)))
      have Z4 := Aside0.mk (blk_grown (blk_below HZd.out HB2.out) hg3 (Kd.N_away HNd.out (fun b hb => by omega)))
      have HN3 := Aside0.mk hN3
      have HB3 := Aside0.mk hb3
      clear hN3 hb3 hg3 hv3
      refine hK.out _ _ (HKS.out _ HB3.out X4.out Z4.out) (fun hHeld => ?_)
      clear hK K
      refine norm_ (a' := ?_) ?_ ?_
      rotate_left
      · show Act.put _ (some 39) _ = _
        simp only [Act.put, List.setIfInBounds_toArray, List.set_cons_zero, List.set_cons_succ, i64_w, i32_w]
        rfl
      obtain ⟨z0, z1, z2, z3, zf⟩ := cells4 Z4.out
      refine pure_ (i := 19) (N := some 40) (v := ?_) (a' := ?_) #[true, true, true, true, true, true, true, true, true, true, true, true, true, true, true, true, true, true, true, true, false] rfl rfl (any_of HT_.out (by kernel_rfl)) (fun _ _ _ h => h) (Or.inl ⟨by rfl, ?_⟩) ?_ ?_
      rotate_left
      · intro w'
        go_simp
        with_reducible rfl
      rotate_left
      · simp only [Act.put, List.setIfInBounds_toArray, List.set_cons_zero, List.set_cons_succ, i64_w, i32_w]
        rfl
      refine last_ (i := 20) (N := none) #[true, true, true, true, true, true, true, true, true, true, true, true, true, true, true, true, true, true, true, true, true] rfl rfl (one_of HT_.out (by kernel_rfl)) (by decide) (fun K hK => ?_)
      refine skip_ (w1 := ?_) (by rfl) rfl ?_ ?_
      rotate_left
      · go_simp
        rfl
      refine hK.out _ _ ?_
      clear hK K
      refine done_ (done_of HT_.out (by kernel_rfl)) ?_
      go_wp2_with fail
      go_roundw
      case rel => exact ⟨k + 1, A3, c3, by omega, by omega, by go_num, ⟨blk_far X4.out (by show w.heap.size ≠ w.heap.size + 1 + 1; omega) _⟩, ⟨blk_far Y4.out (by show w.heap.size + 1 ≠ w.heap.size + 1 + 1; omega) _⟩, ⟨(blk_set Z4.out 2 _).trans rfl⟩, ⟨Kd.N_far (p := ⟨w.heap.size + 1 + 1, 2, none⟩) HN3.out (fun b hb => by show b ≠ w.heap.size + 1 + 1; omega) _⟩, ⟨HB3.out.setCell (p := ⟨w.heap.size + 1 + 1, 2, none⟩) (by show w.heap.size ≤ w.heap.size + 1 + 1; omega) _⟩⟩
      case measure => simp [intOf]; omega
    · have hkl : k ≤ qs.length := by rw [HLQ.out]; exact hkn
      have HFIN := Aside0.mk (heads_all qs k (by have := HLQ.out; omega))
      have HL0 := Aside0.mk (heads_length qs k hkl)
      obtain ⟨p, hp⟩ : ∃ p : Nat, (if (10 : Int) < (ns : Int) then (10 : Int) else (ns : Int)) = (p : Int) := ⟨min ns 10, by split <;> omega⟩
      have hp1 : p ≤ 10 := by split at hp <;> omega
      have hp2 : p ≤ ns := by split at hp <;> omega
      have hp3 : p ≤ cs := by omega
      obtain ⟨st, hst⟩ : ∃ st, st = ss.take 10 := ⟨_, rfl⟩
      have FT := Aside0.mk (show Kd.F kSeen w oks As p st from by
        rw [hst]
        have h0 := HS.out
        rw [← HLS.out] at h0 hp hp2
        have h1 := Kd.F_take h0 hp2
        rw [take_ten' hp, List.length_take] at h1
        have h2 : min 10 ss.length = p := by split at hp <;> omega
        rwa [h2] at h1)
      have KS : ∀ W : World, W.heap[w.heap.size]? = some (.cells #[.bool on, .bool bad, .slice Aq nq cq, .slice As ns cs] 26 (0, 0)) → W.heap[w.heap.size + 1 + 1]? = some (.cells #[.bool on, .bool bad, .slice A k c, .slice none 0 0] 26 (0, 0)) → W.cell? ⟨w.heap.size + 1 + 1, 3, none⟩ = some (.slice none 0 0) ∧ W.cell? ⟨w.heap.size, 3, none⟩ = some (.slice As ns cs) := fun W h2 h3 =>
        ⟨(cells4 h3).2.2.2.1, (cells4 h2).2.2.2.1⟩
      have HKS := Aside0.mk KS
      have HST := Aside0.mk hst
      clear KS hst HX HY HZ HN HB
      rcases (show (¬ k < nq) ∨ (k < nq ∧ ¬ k < 10) by omega) with h1 | ⟨h1, h2⟩
      all_goals
        go_wp2_with fail
        refine start_ (n := 12) (S := fun w' => w'.cell? ⟨w.heap.size + 1 + 1, 3, none⟩ = some (.slice none 0 0) ∧ w'.cell? ⟨w.heap.size, 3, none⟩ = some (.slice As ns cs)) (ds := [11]) #[false, false, false, false, false, false, false, false, false, false, false, false] (by kernel_rfl) rfl rfl (HKS.out _ HXd.out HZd.out) (fun hHeld => with_tabW small6_tab small6_bits (fun HT_ HW_ => ?_))
        generalize wr.drew = wd at HBd HXd HYd HZd HNd hgd hHeld ⊢
        clear x0 x1 x2 x3 xf
        refine pure_ (i := 0) (N := some 41) (v := ?_) (a' := ?_) #[true, false, false, false, false, false, false, false, false, false, false, false] rfl rfl (any_of HT_.out (by kernel_rfl)) (fun _ _ _ h => h) (Or.inl ⟨by rfl, ?_⟩) ?_ ?_
        rotate_left
        · intro w'
          go_simp
          with_reducible rfl
        rotate_left
        · simp only [Act.put, List.setIfInBounds_toArray, List.set_cons_zero, List.set_cons_succ, i64_w, i32_w]
          rfl
        refine pure_ (i := 2) (N := some 43) (v := ?_) (a' := ?_) #[true, false, true, false, false, false, false, false, false, false, false, false] rfl rfl (any_of HT_.out (by kernel_rfl)) (fun _ _ _ h => h) (Or.inl ⟨by rfl, ?_⟩) ?_ ?_
        rotate_left
        · intro w'
          go_simp
          with_reducible rfl
        rotate_left
        · simp only [Act.put, List.setIfInBounds_toArray, List.set_cons_zero, List.set_cons_succ, i64_w, i32_w]
          rfl
        refine pure_ (i := 4) (N := some 45) (v := ?_) (a' := ?_) #[true, false, true, false, true, false, false, false, false, false, false, false] rfl rfl (any_of HT_.out (by kernel_rfl)) (fun _ _ _ h => h) (Or.inl ⟨by rfl, ?_⟩) ?_ ?_
        rotate_left
        · intro w'
          go_simp
          with_reducible rfl
        rotate_left
        · simp only [Act.put, List.setIfInBounds_toArray, List.set_cons_zero, List.set_cons_succ, i64_w, i32_w]
          rfl
        refine take_ (i := 1) (N := some 42) (v := ?_) (a' := ?_) #[true, true, true, false, true, false, false, false, false, false, false, false] rfl rfl (take_ofW HT_.out HW_.out (by kernel_rfl)) (fun _ _ _ h => h) (Or.inl ⟨by rfl, ?_⟩) hHeld ?_ ?_
        rotate_left
        · rintro w' ⟨s0, s1⟩
          go_simp
          with_reducible rfl
        rotate_left
        · simp only [Act.put, List.setIfInBounds_toArray, List.set_cons_zero, List.set_cons_succ, i64_w, i32_w]
          rfl
        refine take_ (i := 3) (N := some 44) (v := ?_) (a' := ?_) #[true, true, true, true, true, false, false, false, false, false, false, false] rfl rfl (take_ofW HT_.out HW_.out (by kernel_rfl)) (fun _ _ _ h => h) (Or.inl ⟨by rfl, ?_⟩) hHeld ?_ ?_
        rotate_left
        · rintro w' ⟨s0, s1⟩
          go_simp
          with_reducible rfl
        rotate_left
        · simp only [Act.put, List.setIfInBounds_toArray, List.set_cons_zero, List.set_cons_succ, i64_w, i32_w]
          rfl
        refine take_ (i := 5) (N := some 46) (v := ?_) (a' := ?_) #[true, true, true, true, true, true, false, false, false, false, false, false] rfl rfl (take_ofW HT_.out HW_.out (by kernel_rfl)) (fun _ _ _ h => h) (Or.inl ⟨by rfl, ?_⟩) hHeld ?_ ?_
        rotate_left
        · rintro w' ⟨s0, s1⟩
          go_simp
          with_reducible rfl
        rotate_left
        · simp only [Act.put, List.setIfInBounds_toArray, List.set_cons_zero, List.set_cons_succ, i64_w, i32_w]
          rfl
        refine pure_ (i := 6) (N := some 47) (v := ?_) (a' := ?_) #[true, true, true, true, true, true, true, false, false, false, false, false] rfl rfl (any_of HT_.out (by kernel_rfl)) (fun _ _ _ h => h) (Or.inl ⟨by rfl, ?_⟩) ?_ ?_
        rotate_left
        · intro w'
          go_simp
          with_reducible rfl
        rotate_left
        · simp only [Act.put, List.setIfInBounds_toArray, List.set_cons_zero, List.set_cons_succ, i64_w, i32_w]
          rfl
        refine pure_ (i := 7) (N := some 48) (v := ?_) (a' := ?_) #[true, true, true, true, true, true, true, true, false, false, false, false] rfl rfl (any_of HT_.out (by kernel_rfl)) (fun _ _ _ h => h) (Or.inl ⟨by rfl, ?_⟩) ?_ ?_
        rotate_left
        · intro w'
          go_simp
          with_reducible rfl
        rotate_left
        · simp only [Act.put, List.setIfInBounds_toArray, List.set_cons_zero, List.set_cons_succ, i64_w, i32_w]
          rfl
        refine pure_ (i := 8) (N := some 49) (v := ?_) (a' := ?_) #[true, true, true, true, true, true, true, true, true, false, false, false] rfl rfl (any_of HT_.out (by kernel_rfl)) (fun _ _ _ h => h) (Or.inl ⟨by rfl, ?_⟩) ?_ ?_
        rotate_left
        · intro w'
          go_simp
          with_reducible rfl
        rotate_left
        · simp only [Act.put, List.setIfInBounds_toArray, List.set_cons_zero, List.set_cons_succ, i64_w, i32_w]
          rfl
        refine one_ (i := 9) (N := some 50) #[true, true, true, true, true, true, true, true, true, true, false, false] rfl rfl (one_of HT_.out (by kernel_rfl)) (by decide) (fun K hK => ?_)
        refine Kd.N_append_rows_step kSeen (w0 := w) w.heap.size ?hw (.tmp 42) (.tmp 49) 24 36 (.agg #[(.string ⟨#[]⟩), (.int .i64 0)]) 24 ?ho Try.underlying24 info36 ?hz (Nat.le_add_left _ _) (Nat.le_add_left _ _) (.slice none 0 0) [] st As p cs (fun b => (oks b ∧ b < w.heap.size) ∨ wd.heap.size ≤ b) (fun b => oks b ∧ b < w.heap.size) ?hs ?hx (Kd.N_nil _ _ _ _ _) (Kd.F_old FT.out HBd.out) ?hokp ?hfresh HBd.out HBd.out.size ?hl ?_
        (case hw => rfl)
        (case ho => rfl)
        (case hz => rfl)
        (case hs => rfl)
        (case hx => rfl)
        (case hokp => exact fun b hb => ⟨.inl hb, by simp [Value.ownBlock]⟩)
        (case hfresh => exact fun b hb => .inr hb)
        (case hl => simp; omega)
        intro v2 w3 hN2 hb2 hg2 hv2
        rw [List.nil_append] at hN2
        have HN2' := Aside0.mk (show Kd.N kSeen 36 w3 w.heap.size (fun b => wd.heap.size ≤ b) v2 st from N_flat flat_seen hN2 (fun j hj => by
          rcases hv2 with h | ⟨b, h, hb⟩
          · rw [hj] at h; simp [Value.ownBlock] at h
          · rw [hj] at h; injection h with h; omega))
        obtain ⟨A2, c2, rfl⟩ := Kd.N_slice hN2
        have X4 := Aside0.mk (blk_grown HXd.out hg2 (by simp [Value.ownBlock]))
        have Y4 := Aside0.mk (blk_grown HYd.out hg2 (by simp [Value.ownBlock]))
        have Z4 := Aside0.mk (blk_grown HZd.out hg2 (by simp [Value.ownBlock]))
        have HNq := Aside0.mk (Kd.N_grown HNd.out hg2 (fun b _ => by simp [Value.ownBlock]))
        have HN2 := HN2'
        have HB2 := Aside0.mk hb2
        clear hN2 hb2 hg2 hv2 HN2'
        refine hK.out _ _ (HKS.out _ X4.out Z4.out) (fun hHeld => ?_)
        clear hK K
        refine norm_ (a' := ?_) ?_ ?_
        rotate_left
        · show Act.put _ (some 50) _ = _
          simp only [Act.put, List.setIfInBounds_toArray, List.set_cons_zero, List.set_cons_succ, i64_w, i32_w]
          rfl
        obtain ⟨z0, z1, z2, z3, zf⟩ := cells4 Z4.out
        obtain ⟨y0, y1, y2, y3, yf⟩ := cells4 Y4.out
        refine pure_ (i := 10) (N := some 51) (v := ?_) (a' := ?_) #[true, true, true, true, true, true, true, true, true, true, true, false] rfl rfl (any_of HT_.out (by kernel_rfl)) (fun _ _ _ h => h) (Or.inl ⟨by rfl, ?_⟩) ?_ ?_
        rotate_left
        · intro w'
          go_simp
          with_reducible rfl
        rotate_left
        · simp only [Act.put, List.setIfInBounds_toArray, List.set_cons_zero, List.set_cons_succ, i64_w, i32_w]
          rfl
        refine last_ (i := 11) (N := none) #[true, true, true, true, true, true, true, true, true, true, true, true] rfl rfl (one_of HT_.out (by kernel_rfl)) (by decide) (fun K hK => ?_)
        refine skip_ (w1 := ?_) (by rfl) rfl ?_ ?_
        rotate_left
        · go_simp
          rfl
        refine hK.out _ _ ?_
        clear hK K
        refine done_ (done_of HT_.out (by kernel_rfl)) ?_
        go_wp2_with fail
        refine bodyPost_ret (v := tx on bad A k c A2 st.length c2) (by simp [results, Try.results15, go_sem, y0, y1, y2, y3, z0, z1, z2, z3]) rfl ?_
        rw [← HST.out]
        refine ⟨A, c, A2, c2, ?_, ⟨?_⟩, ⟨?_⟩, ?_, ?_, ?_⟩
        · rw [← HFIN.out, HL0.out]
        · have hF := Kd.N_F HNq.out
          rw [← HFIN.out, HL0.out]
          exact Kd.F_mono (four_F (Kd.F_far (p := ⟨w.heap.size + 1 + 1, 3, none⟩) hF (fun b hb => by show b ≠ w.heap.size + 1 + 1; omega) _) (g := w.heap.size + 1) (fun b hb => by omega) _ _ _ _) (fun _ _ => trivial)
        · exact Kd.F_mono (four_F (Kd.F_far (p := ⟨w.heap.size + 1 + 1, 3, none⟩) (Kd.N_F HN2.out) (fun b hb => by show b ≠ w.heap.size + 1 + 1; omega) _) (g := w.heap.size + 1) (fun b hb => by omega) _ _ _ _) (fun _ _ => trivial)
        · have h := (Kd.N_reads' HNq.out).2.1
          rw [← HFIN.out, HL0.out]
          exact h
        · exact (Kd.N_reads' HN2.out).2.1
        · exact four_B (HB2.out.setCell (p := ⟨w.heap.size + 1 + 1, 3, none⟩) (by show w.heap.size ≤ w.heap.size + 1 + 1; omega) _) (g := w.heap.size + 1) (by omega) _ _ _ _
end Go.Proofs.Ytbjhpmifjiibaaa.T
