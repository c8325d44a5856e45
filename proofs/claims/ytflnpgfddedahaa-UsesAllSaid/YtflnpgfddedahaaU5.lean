/- What the kinds do that bear captured cells, or channels. -/
import Derived.Test.YtflnpgfddedahaaU4
import Derived.Test.YtflnpgfddedahaaWTab
namespace Go.Proofs.Ytflnpgfddedahaa.U
open Go.RowKit Go.Great Go.Proofs.YtflnpgfddedahaaW.PrintWords Go.Proofs.YtflnpgfddedahaaW.PrintLast Go.Proofs.YtflnpgfddedahaaW.PrintMore
set_option linter.unusedVariables false
set_option linter.unusedSimpArgs false

def one64T : Bool × List (List Nat × List Nat) := (true, [([], []), ([], []), ([1], [1]), ([2], [2]), ([], []), ([], []), ([0, 3, 4, 5], [0, 3, 4, 5])])
def one64B : List Nat := [0, 0, 2, 6, 0, 0, 63]
theorem one64_tab : rtab .any (opsOf Try.f64 0) = one64T := by kernel_rfl
theorem one64_bits : waitsOk one64T.2 one64B = true := by kernel_rfl
def each63T : Bool × List (List Nat × List Nat) := (true, [([], []), ([], []), ([], []), ([1, 2], [1, 2]), ([3], [3]), ([], []), ([], []), ([0, 4, 5, 6], [0, 4, 5, 6])])
def each63B : List Nat := [0, 0, 0, 6, 14, 0, 0, 127]
theorem each63_tab : rtab .any (opsOf Try.f63 3) = each63T := by kernel_rfl
theorem each63_bits : waitsOk each63T.2 each63B = true := by kernel_rfl
section
variable (g : Nat) (c : Int) (A : Option Addr) (n cp : Nat) (xs : List ByteArray) (W : World)

set_option maxHeartbeats 1000000 in
set_option maxRecDepth 100000 in
theorem one_calls (r w : Bool) (b d : Addr) (hb : W.cell? b = some (.bool r)) (hd : W.cell? d = some (.bool w)) (hg : W.heap[g]? = some (needB c (.slice none 0 0) false false (.slice none 0 0))) (hF : Kd.F Kd.string W (fun k => k < g) A n xs) (h2 : 2 ≤ n) :
    Calls Try.prog 64 #[.pointer (some ⟨g, 0, none⟩), .slice A n cp, .pointer (some b), .pointer (some d)] W fun e W' => e = .returned (.tuple #[]) ∧ Aside0 (NeedAt W' g W.heap.size c [⟨word xs 1, r, w⟩] false false []) ∧ Aside0 (Below g W W') := by
  have HK := Aside0.mk (KeysAt.fresh W.heap.size (show W.drew.heap[g]? = _ from hg))
  have hlt : g < W.heap.size := blk_lt hg
  have hszd : W.heap.size ≤ W.drew.heap.size := Nat.le_refl _
  obtain ⟨ad, rfl⟩ := some_at hF (by omega)
  have HC := Aside0.mk (show W.drew.cell? ⟨ad.block, ad.off + 1, none⟩ = some (.string (word xs 1)) ∧ W.drew.cell? b = some (.bool r) ∧ W.drew.cell? d = some (.bool w) from ⟨word_at hF 0 (by omega), hb, hd⟩)
  have i1 : (1 : Int) < (n : Int) := by omega
  have HBD := Aside0.mk ((Below.refl g W).drew)
  clear hg hF hb hd
  go_enter Try.func64, Try.ntmps64
  refine start_ (n := 7) (S := fun w' => w'.cell? ⟨ad.block, ad.off + 1, none⟩ = some (.string (word xs 1)) ∧ w'.cell? b = some (.bool r) ∧ w'.cell? d = some (.bool w)) (ds := [6]) #[false, false, false, false, false, false, false] (by kernel_rfl) rfl rfl HC.out (fun hHeld => with_tabW one64_tab one64_bits (fun HT_ HW_ => ?_))
  generalize W.drew = wd at HK hszd HC HBD hHeld ⊢
  refine pure_ (i := 0) (N := some 6) (v := ?_) (a' := ?_) #[true, false, false, false, false, false, false] rfl rfl (any_of HT_.out (by kernel_rfl)) (fun _ _ _ h => h) (Or.inl ⟨by rfl, ?_⟩) ?_ ?_
  rotate_left
  · intro w'
    go_simp
    with_reducible rfl
  rotate_left
  · simp only [Act.put, List.setIfInBounds_toArray, List.set_cons_zero, List.set_cons_succ, i64_w, i32_w]
    rfl
  refine pure_ (i := 1) (N := some 7) (v := ?_) (a' := ?_) #[true, true, false, false, false, false, false] rfl rfl (any_of HT_.out (by kernel_rfl)) (fun _ _ _ h => h) (Or.inl ⟨by rfl, ?_⟩) ?_ ?_
  rotate_left
  · intro w'
    go_simp
    with_reducible rfl
  rotate_left
  · simp only [Act.put, List.setIfInBounds_toArray, List.set_cons_zero, List.set_cons_succ, i64_w, i32_w]
    rfl
  refine pure_ (i := 2) (N := some 8) (v := ?_) (a' := ?_) #[true, true, true, false, false, false, false] rfl rfl (any_of HT_.out (by kernel_rfl)) (fun _ _ _ h => h) (Or.inl ⟨by rfl, ?_⟩) ?_ ?_
  rotate_left
  · intro w'
    go_simp
    with_reducible rfl
  rotate_left
  · simp only [Act.put, List.setIfInBounds_toArray, List.set_cons_zero, List.set_cons_succ, i64_w, i32_w]
    rfl
  refine take_ (i := 3) (N := some 9) (v := ?_) (a' := ?_) #[true, true, true, true, false, false, false] rfl rfl (take_ofW HT_.out HW_.out (by kernel_rfl)) (fun _ _ _ h => h) (Or.inl ⟨by rfl, ?_⟩) hHeld ?_ ?_
  rotate_left
  · rintro w' ⟨s0, s1, s2⟩
    go_simp
    with_reducible rfl
  rotate_left
  · simp only [Act.put, List.setIfInBounds_toArray, List.set_cons_zero, List.set_cons_succ, i64_w, i32_w]
    rfl
  refine take_ (i := 4) (N := some 10) (v := ?_) (a' := ?_) #[true, true, true, true, true, false, false] rfl rfl (take_ofW HT_.out HW_.out (by kernel_rfl)) (fun _ _ _ h => h) (Or.inl ⟨by rfl, ?_⟩) hHeld ?_ ?_
  rotate_left
  · rintro w' ⟨s0, s1, s2⟩
    go_simp
    with_reducible rfl
  rotate_left
  · simp only [Act.put, List.setIfInBounds_toArray, List.set_cons_zero, List.set_cons_succ, i64_w, i32_w]
    rfl
  refine take_ (i := 5) (N := some 11) (v := ?_) (a' := ?_) #[true, true, true, true, true, true, false] rfl rfl (take_ofW HT_.out HW_.out (by kernel_rfl)) (fun _ _ _ h => h) (Or.inl ⟨by rfl, ?_⟩) hHeld ?_ ?_
  rotate_left
  · rintro w' ⟨s0, s1, s2⟩
    go_simp
    with_reducible rfl
  rotate_left
  · simp only [Act.put, List.setIfInBounds_toArray, List.set_cons_zero, List.set_cons_succ, i64_w, i32_w]
    rfl
  refine last_ (i := 6) (N := some 12) #[true, true, true, true, true, true, true] rfl rfl (one_of HT_.out (by kernel_rfl)) (by decide) (fun K hK => ?_)
  refine goes_ Try.func50 (by kernel_rfl) rfl #[.pointer (some ⟨g, 0, none⟩), .string (word xs 1), .bool r, .bool w] (by rfl) rfl rfl (by first | rfl | (simp [Act.eval]; done) | kernel_rfl) ?_
  refine (use_at g W.heap.size c false false [] ⟨word xs 1, r, w⟩ _ HK.out hlt hszd (by simp)).mono ?_
  rintro e w1 ⟨rfl, HK1, HC1, HB1⟩
  refine ⟨_, rfl, ?_⟩
  refine hK.out _ _ ?_
  clear hK K
  refine done_ (done_of HT_.out (by kernel_rfl)) ?_
  go_wp2_with fail
  exact bodyPost_end0 rfl rfl ⟨rfl, ⟨HK1.out.need⟩, ⟨HBD.out.trans HB1.out⟩⟩

/-- The keys of a request, each so many words on. -/
def eachUpto (s : Nat) (r w : Bool) (xs : List ByteArray) (m : Nat) : List UseD := (List.range m).map fun q => ⟨word xs (1 + s * q), r, w⟩
theorem each_succ (s : Nat) (r w : Bool) (xs : List ByteArray) (m : Nat) : eachUpto s r w xs (m + 1) = eachUpto s r w xs m ++ [⟨word xs (1 + s * m), r, w⟩] := by
  unfold eachUpto
  rw [List.range_succ, List.map_append]
  rfl
theorem each_length (s : Nat) (r w : Bool) (xs : List ByteArray) (m : Nat) : (eachUpto s r w xs m).length = m := by simp [eachUpto]

set_option maxHeartbeats 1000000 in
set_option maxRecDepth 100000 in
theorem each_walk (s : Nat) (hs : s = 1 ∨ s = 2) (r w : Bool) (a b d : Addr) (ha : W.cell? a = some (.int .i64 s)) (hb : W.cell? b = some (.bool r)) (hd : W.cell? d = some (.bool w)) (ga : a.block ≠ g) (gb : b.block ≠ g) (gd : d.block ≠ g) (hg : W.heap[g]? = some (needB c (.slice none 0 0) false false (.slice none 0 0))) (hF : Kd.F Kd.string W (fun k => k < g) A n xs) (h1 : 1 ≤ n) (hn : n ≤ 1000000) :
    Calls Try.prog 63 #[.pointer (some ⟨g, 0, none⟩), .slice A n cp, .pointer (some a), .pointer (some b), .pointer (some d)] W fun e W' => e = .returned (.tuple #[]) ∧ Aside0 (NeedAt W' g W.heap.size c (eachUpto s r w xs ((n + s - 2) / s)) false false []) ∧ Aside0 (Below g W W') := by
  have HK := Aside0.mk (KeysAt.fresh W.heap.size hg)
  have hlt : g < W.heap.size := blk_lt hg
  obtain ⟨ad, rfl⟩ := some_at hF (by omega)
  have HF := Aside0.mk hF
  have HA := Aside0.mk ha
  have HBb := Aside0.mk hb
  have HD := Aside0.mk hd
  have ba := World.block_lt_of_cell? W _ ha
  have bb := World.block_lt_of_cell? W _ hb
  have bd := World.block_lt_of_cell? W _ hd
  have hs1 : 1 ≤ s ∧ s ≤ 2 := by omega
  clear hg hF ha hb hd
  go_enter Try.func63, Try.ntmps63
  go_wp2_with fail
  go_loopw [7] (fun i wr => ∃ j p : Nat, p = 1 + s * j ∧ p ≤ n + 1 ∧ j ≤ n ∧ i = .int .i64 p ∧ W.heap.size ≤ wr.heap.size ∧ Aside0 (KeysAt wr g W.heap.size c (eachUpto s r w xs j) false false) ∧ Aside0 (Kept1 W wr g W.heap.size) ∧ Aside0 (Below g W wr) ∧ Aside0 (∀ q, q < j → 1 + s * q < n)) (fun i _ => n + 1 - (intOf i).toNat)
  case atStart => exact ⟨0, 1, by omega, by omega, by omega, rfl, Nat.le_refl _, HK, ⟨fun _ _ _ => rfl⟩, ⟨Below.refl _ _⟩, ⟨fun q hq => absurd hq (Nat.not_lt_zero _)⟩⟩
  case round =>
    obtain ⟨j, p, hp, hpn, hjn, rfl, hszr, HKr, HCr, HBr, HQ⟩ := hrel
    have HP := Aside0.mk hp
    by_cases hlt2 : p < n
    · have p0 : (0 : Int) ≤ (p : Int) := by omega
      have p1 : (p : Int) < (n : Int) := by omega
      obtain ⟨ad', hl, e2, c0⟩ := text_at (HCr.out.args hlt HF.out) p hlt2
      injection e2 with e2
      subst e2
      rw [word_get] at c0
      have hps : p + s ≤ n + 1 := by omega
      have HSUM := Aside0.mk (show IntKind.i64.wrap ((p : Int) + (s : Int)) = ((p + s : Nat) : Int) from by rw [IntWalk.i64_in _ (by omega)]; omega)
      have HC := Aside0.mk (show wr.drew.cell? (ad.add p) = some (.string (word xs p)) ∧ wr.drew.cell? b = some (.bool r) ∧ wr.drew.cell? d = some (.bool w) from ⟨c0, HCr.out.cell HBb.out bb gb, HCr.out.cell HD.out bd gd⟩)
      have HKd : Aside0 (KeysAt wr.drew g W.heap.size c (eachUpto s r w xs j) false false) := ⟨by obtain ⟨v, h1, h2⟩ := HKr.out.out; exact ⟨v, h1, Kd.N_drew h2⟩⟩
      have HCd : Aside0 (Kept1 W wr.drew g W.heap.size) := ⟨HCr.out⟩
      have HBd : Aside0 (Below g W wr.drew) := ⟨HBr.out.drew⟩
      have hszd : W.heap.size ≤ wr.drew.heap.size := hszr
      have hel : (eachUpto s r w xs j).length ≤ 1000000 := by rw [each_length]; omega
      have HES := Aside0.mk (each_succ s r w xs j)
      clear hp c0 HKr HCr HBr
      go_wp2_with fail
      refine start_ (n := 8) (S := fun w' => w'.cell? (ad.add p) = some (.string (word xs p)) ∧ w'.cell? b = some (.bool r) ∧ w'.cell? d = some (.bool w)) (ds := [7]) #[false, false, false, false, false, false, false, false] (by kernel_rfl) rfl rfl HC.out (fun hHeld => with_tabW each63_tab each63_bits (fun HT_ HW_ => ?_))
      generalize wr.drew = wd at HKd HCd HBd hszd HC hHeld ⊢
      refine pure_ (i := 0) (N := some 15) (v := ?_) (a' := ?_) #[true, false, false, false, false, false, false, false] rfl rfl (any_of HT_.out (by kernel_rfl)) (fun _ _ _ h => h) (Or.inl ⟨by rfl, ?_⟩) ?_ ?_
      rotate_left
      · intro w'
        go_simp
        with_reducible rfl
      rotate_left
      · simp only [Act.put, List.setIfInBounds_toArray, List.set_cons_zero, List.set_cons_succ, i64_w, i32_w]
        rfl
      refine pure_ (i := 1) (N := some 16) (v := ?_) (a' := ?_) #[true, true, false, false, false, false, false, false] rfl rfl (any_of HT_.out (by kernel_rfl)) (fun _ _ _ h => h) (Or.inl ⟨by rfl, ?_⟩) ?_ ?_
      rotate_left
      · intro w'
        go_simp
        with_reducible rfl
      rotate_left
      · simp only [Act.put, List.setIfInBounds_toArray, List.set_cons_zero, List.set_cons_succ, i64_w, i32_w]
        rfl
      refine pure_ (i := 2) (N := some 17) (v := ?_) (a' := ?_) #[true, true, true, false, false, false, false, false] rfl rfl (any_of HT_.out (by kernel_rfl)) (fun _ _ _ h => h) (Or.inl ⟨by rfl, ?_⟩) ?_ ?_
      rotate_left
      · intro w'
        go_simp
        with_reducible rfl
      rotate_left
      · simp only [Act.put, List.setIfInBounds_toArray, List.set_cons_zero, List.set_cons_succ, i64_w, i32_w]
        rfl
      refine pure_ (i := 3) (N := some 18) (v := ?_) (a' := ?_) #[true, true, true, true, false, false, false, false] rfl rfl (any_of HT_.out (by kernel_rfl)) (fun _ _ _ h => h) (Or.inl ⟨by rfl, ?_⟩) ?_ ?_
      rotate_left
      · intro w'
        go_simp
        with_reducible rfl
      rotate_left
      · simp only [Act.put, List.setIfInBounds_toArray, List.set_cons_zero, List.set_cons_succ, i64_w, i32_w]
        rfl
      refine take_ (i := 4) (N := some 19) (v := ?_) (a' := ?_) #[true, true, true, true, true, false, false, false] rfl rfl (take_ofW HT_.out HW_.out (by kernel_rfl)) (fun _ _ _ h => h) (Or.inl ⟨by rfl, ?_⟩) hHeld ?_ ?_
      rotate_left
      · rintro w' ⟨s0, s1, s2⟩
        go_simp
        with_reducible rfl
      rotate_left
      · simp only [Act.put, List.setIfInBounds_toArray, List.set_cons_zero, List.set_cons_succ, i64_w, i32_w]
        rfl
      refine take_ (i := 5) (N := some 20) (v := ?_) (a' := ?_) #[true, true, true, true, true, true, false, false] rfl rfl (take_ofW HT_.out HW_.out (by kernel_rfl)) (fun _ _ _ h => h) (Or.inl ⟨by rfl, ?_⟩) hHeld ?_ ?_
      rotate_left
      · rintro w' ⟨s0, s1, s2⟩
        go_simp
        with_reducible rfl
      rotate_left
      · simp only [Act.put, List.setIfInBounds_toArray, List.set_cons_zero, List.set_cons_succ, i64_w, i32_w]
        rfl
      refine take_ (i := 6) (N := some 21) (v := ?_) (a' := ?_) #[true, true, true, true, true, true, true, false] rfl rfl (take_ofW HT_.out HW_.out (by kernel_rfl)) (fun _ _ _ h => h) (Or.inl ⟨by rfl, ?_⟩) hHeld ?_ ?_
      rotate_left
      · rintro w' ⟨s0, s1, s2⟩
        go_simp
        with_reducible rfl
      rotate_left
      · simp only [Act.put, List.setIfInBounds_toArray, List.set_cons_zero, List.set_cons_succ, i64_w, i32_w]
        rfl
      refine last_ (i := 7) (N := some 22) #[true, true, true, true, true, true, true, true] rfl rfl (one_of HT_.out (by kernel_rfl)) (by decide) (fun K hK => ?_)
      refine goes_ Try.func50 (by kernel_rfl) rfl #[.pointer (some ⟨g, 0, none⟩), .string (word xs p), .bool r, .bool w] (by rfl) rfl rfl (by first | rfl | (simp [Act.eval]; done) | kernel_rfl) ?_
      refine (use_at g W.heap.size c false false _ ⟨word xs p, r, w⟩ _ HKd.out hlt hszd hel).mono ?_
      rintro e w1 ⟨rfl, HK1, HC1, HB1⟩
      refine ⟨_, rfl, ?_⟩
      refine hK.out _ _ ?_
      clear hK K
      refine done_ (done_of HT_.out (by kernel_rfl)) ?_
      have HC1 := Aside0.mk (HCd.out.trans HC1.out)
      have ca := HC1.out.cell HA.out ba ga
      have hsz1 : W.heap.size ≤ w1.heap.size := Nat.le_trans hszd HB1.out.size
      go_wp2_with fail
      go_roundw
      case rel => exact ⟨j + 1, p + s, by rw [HP.out, Nat.mul_succ]; omega, by omega, by rcases hs with rfl | rfl <;> (have := HP.out; omega), by first | rw [HSUM.out] | go_num | (congr 1; omega), hsz1, ⟨by rw [HES.out, ← HP.out]; exact HK1.out⟩, HC1, ⟨HBd.out.trans HB1.out⟩, ⟨fun q hq => by
        rcases Nat.lt_succ_iff_lt_or_eq.1 hq with h | h
        · exact HQ.out q h
        · subst h; rw [← HP.out]; exact hlt2⟩⟩
      case measure => simp [intOf]; omega
    · have HJ := Aside0.mk (show (n + s - 2) / s = j from by
        have hp' := HP.out
        by_cases hj0 : j = 0
        · subst hj0; rcases hs with rfl | rfl <;> omega
        · have := HQ.out (j - 1) (by omega)
          rcases hs with rfl | rfl <;> omega)
      have p1 : ¬ (p : Int) < (n : Int) := by omega
      clear hp
      go_wp2_with fail
      exact bodyPost_end0 rfl rfl ⟨rfl, ⟨by rw [HJ.out]; exact HKr.out.need⟩, HBr⟩
end
end Go.Proofs.Ytflnpgfddedahaa.U
