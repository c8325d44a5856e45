/- The reference's Fit: a request of a command. -/
import Derived.Test.YtflnpgfddedahaaR2
import Derived.Test.YtflnpgfddedahaaV5
import Derived.Test.YtflnpgfddedahaaWLast
import Derived.Test.YtflnpgfddedahaaWMore
import Derived.Test.YtflnpgfddedahaaWTab
namespace Go.Proofs.Ytflnpgfddedahaa.U
open Go.RowKit Go.Great Go.Proofs.YtflnpgfddedahaaW.PrintWords Go.Proofs.YtflnpgfddedahaaW.PrintLast Go.Proofs.YtflnpgfddedahaaW.PrintMore
attribute [local go_sem] max2_int min2_int max_two min_two max_three min_three
set_option linter.unusedVariables false
set_option linter.unusedSimpArgs false
def fit10T : Bool × List (List Nat × List Nat) := (true, [([], []), ([], []), ([], []), ([1, 2], [1, 2]), ([3], [3]), ([], []), ([], []), ([5, 6], [5, 6]), ([7], [7]), ([8], [8]), ([9], [9]), ([4, 10], [4, 10]), ([11], [11]), ([0, 12], [0, 12]), ([13, 13, 0, 1, 2, 3, 4, 5, 6, 7, 8, 9, 10, 11, 12, 13], [0, 13])])
def fit10B : List Nat := [0, 0, 0, 6, 14, 0, 0, 96, 224, 480, 992, 2046, 4094, 8191, 16383]
theorem fit10_tab : rtab .any (opsOf Try.f25 10) = fit10T := by kernel_rfl
theorem fit10_bits : waitsOk fit10T.2 fit10B = true := by kernel_rfl
def lenOf (v : Value) : Nat := match v with | .slice _ n _ => n | _ => 0
theorem arity_nz : ∀ k : Nat, k < 56 → (cmdOf k).arity ≠ 0 ∧ (k = 8 → (cmdOf k).arity = -3) := by decide
/-- What Fit answers: a request of a command. -/
def FitSaid (cmd : CmdD) (k : Nat) (W : World) (e : Ending) (W' : World) : Prop := ∃ A' m c xs, e = .returned (.slice A' m c) ∧ m ≤ c ∧ Aside0 (Kd.F Kd.string W' (fun b => W.heap.size ≤ b) A' m xs) ∧ word xs 0 = cmd.name ∧ fitsB cmd (m : Int) = true ∧ (k = 8 → m % 2 = 1) ∧ m ≤ 12 ∧ Aside0 (Below W.heap.size W W')
set_option maxHeartbeats 16000000 in
set_option maxRecDepth 100000 in
theorem fit_calls (k : Nat) (hk : k < 56) (A : Option Addr) (n C : Nat) (ys : List ByteArray) (ok : Nat → Prop) (W : World) (hF : Kd.F Kd.string W ok A n ys) (hn : n ≤ 12) (hnc : n ≤ C) :
    Calls Try.prog 25 #[.int .i64 k, .slice A n C] W fun e W' => FitSaid (cmdOf k) k W e W' := by
  obtain ⟨h1, h2⟩ := arity_bd k hk
  obtain ⟨h3, h4⟩ := arity_nz k hk
  have h5 := names_mset k hk
  have HAT := Aside0.mk (fun w => refAt_in k w hk)
  have HFY := Aside0.mk hF
  clear hF
  generalize cmdOf k = cmd at *
  obtain ⟨nm, ar, ca⟩ := cmd
  simp only at h1 h2 h3 h4 h5
  obtain ⟨le, hle⟩ : ∃ le : Nat, (if ar < -ar then -ar else ar) = (le : Int) := ⟨ar.natAbs, by split <;> omega⟩
  have H5 : Aside0 ((nm.toList == [109, 115, 101, 116]) = (k == 8)) := ⟨by rw [ByteArray.toList_eq]; exact h5⟩
  have H4 := Aside0.mk h4
  clear h4 h5
  by_cases har : ar < 0
  · go_enter Try.func25, Try.ntmps25
    go_wp2_with (first
      | (go_at_call 26; refine (HAT.out _).mono ?_; rintro e w1 ⟨rfl, hb1⟩; have HX := Aside0.mk (blk_new w1 (.cells #[.string nm, .int .i64 ar, .int .u16 ca] 26)); have HB := Aside0.mk (below_alloc hb1 (.cells #[.string nm, .int .i64 ar, .int .u16 ca] 26)); clear hb1; obtain ⟨x0, x1, x2, xf⟩ := cells3 HX.out)
      | ((with_reducible refine gate_dst (N := 18) rfl ?_); go_must (refine Kd.N_lit Kd.string (w0 := w1.alloc (.cells #[.string nm, .int .i64 ar, .int .u16 ca] 26)) (w1.alloc (.cells #[.string nm, .int .i64 ar, .int .u16 ca] 26)).heap.size 9 rfl (N' := 18) rfl (xs := [nm]) (inner := [.string nm]) (ok := fun b => W.heap.size ≤ b) (okp := fun _ => False) (by go_simp; try rfl) (texts_reps (fun c => fun W' _ => rfl) [nm]) (fun _ hk => hk.elim) HB.out.size (Below.refl _ _) (Nat.le_refl _) (by simp) ?_); go_must (intro v3 w3 hN hb hg1 hv; obtain ⟨wB, hwB⟩ : ∃ wB, wB = w1.alloc (.cells #[.string nm, .int .i64 ar, .int .u16 ca] 26) := ⟨_, rfl⟩; rw [← hwB] at hN hb HB HX; obtain ⟨A1, c1, rfl⟩ := Kd.N_slice hN; obtain ⟨n1, hn1⟩ : ∃ n1, n1 = [nm].length := ⟨_, rfl⟩; rw [← hn1] at hN ⊢; have HN1 := Aside0.mk hN; have hn1' : n1 = 1 := hn1; have HR := Aside0.mk hb; clear x0 x1 x2 xf; obtain ⟨x0, x1, x2, xf⟩ := cells3 (blk_below HX.out hb); clear hN hb hg1 hv hn1 hwB)))
    clear x0 x1 x2 xf
    go_loopw [7, 10] (fun v7 v10 wr => ∃ (i : Nat) (A3 : Option Addr) (c3 : Nat) (zs : List ByteArray), i ≤ n ∧ (i : Int) + 1 ≤ (10 : Int) ∧ v10 = .int .i64 i ∧ v7 = .slice A3 (i + 1) c3 ∧ Aside0 (zs.length = i) ∧ Aside0 (Kd.N Kd.string 9 wr wB.heap.size (fun b => W.heap.size ≤ b) (.slice A3 (i + 1) c3) (nm :: zs)) ∧ Aside0 (Below wB.heap.size wB wr)) (fun _ v10 _ => n - (intOf v10).toNat)
    case atStart => exact ⟨0, A1, c1, [], Nat.zero_le _, by omega, rfl, rfl, ⟨rfl⟩, ⟨by have h := HN1.out; rw [hn1'] at h; exact h⟩, HR⟩
    case round =>
      obtain ⟨i, A3, c3, zs, hin, hmm, rfl, rfl, HZL, HN, HR⟩ := hrel
      obtain ⟨x0, x1, x2, xf⟩ := cells3 (blk_below HX.out HR.out)
      by_cases hi : i < n
      · have i0 : (i : Int) < (n : Int) := by omega
        have i1 : (0 : Int) ≤ (i : Int) := by omega
        by_cases hm : (i : Int) + 1 < (10 : Int)
        · have j0 : (i : Int) + 1 < (10 : Int) := by omega
          obtain ⟨ad, hl, rfl, c0⟩ := text_at (Kd.F_below HFY.out (step2 HB.out HR.out)) i hi
          obtain ⟨s, hs⟩ : ∃ s, s = ys[i] := ⟨_, rfl⟩
          rw [← hs] at c0
          obtain ⟨q, hq⟩ : ∃ q : Nat, (if (20 : Int) < (s.size : Int) then (20 : Int) else (s.size : Int)) = (q : Int) := ⟨min s.size 20, by split <;> omega⟩
          have q0 : (0 : Int) ≤ (q : Int) := by omega
          have q1 : (q : Int) ≤ (s.size : Int) := by split at hq <;> omega
          have q2 : q ≤ s.size := by omega
          have HRd := Aside0.mk HR.out.drew
          have HNd := Aside0.mk (Kd.N_drew HN.out)
          have KS : Aside0 (∀ w : World, Below wB.heap.size wB w → w.cell? (ad.add i) = some (.string s)) := ⟨fun w h => by have h1 := text_at (Kd.F_below HFY.out (step2 HB.out h)) i hi; obtain ⟨ad', hl', e, c⟩ := h1; injection e with e; subst e; rw [hs] ; exact c⟩
          clear hs c0 x0 x1 x2 xf HN HR
          go_wp2_with fail
          refine start_ (n := 15) (S := fun w' => w'.cell? (ad.add i) = some (.string s)) (ds := []) #[false, false, false, false, false, false, false, false, false, false, false, false, false, false, false] (by kernel_rfl) rfl rfl (KS.out _ HRd.out) (fun hHeld => with_tabW fit10_tab fit10_bits (fun HT_ HW_ => ?_))
          generalize wr.drew = wd at HRd HNd hHeld ⊢
          refine pure_ (i := 0) (N := some 41) (v := ?_) (a' := ?_) #[true, false, false, false, false, false, false, false, false, false, false, false, false, false, false] rfl rfl (any_of HT_.out (by kernel_rfl)) (fun _ _ _ h => h) (Or.inl ⟨by rfl, ?_⟩) ?_ ?_
          rotate_left
          · intro w'
            go_simp
            with_reducible rfl
          rotate_left
          · simp only [Act.put, List.setIfInBounds_toArray, List.set_cons_zero, List.set_cons_succ, i64_w, i32_w]
            rfl
          refine pure_ (i := 1) (N := some 42) (v := ?_) (a' := ?_) #[true, true, false, false, false, false, false, false, false, false, false, false, false, false, false] rfl rfl (any_of HT_.out (by kernel_rfl)) (fun _ _ _ h => h) (Or.inl ⟨by rfl, ?_⟩) ?_ ?_
          rotate_left
          · intro w'
            go_simp
            with_reducible rfl
          rotate_left
          · simp only [Act.put, List.setIfInBounds_toArray, List.set_cons_zero, List.set_cons_succ, i64_w, i32_w]
            rfl
          refine pure_ (i := 2) (N := some 43) (v := ?_) (a' := ?_) #[true, true, true, false, false, false, false, false, false, false, false, false, false, false, false] rfl rfl (any_of HT_.out (by kernel_rfl)) (fun _ _ _ h => h) (Or.inl ⟨by rfl, ?_⟩) ?_ ?_
          rotate_left
          · intro w'
            go_simp
            with_reducible rfl
          rotate_left
          · simp only [Act.put, List.setIfInBounds_toArray, List.set_cons_zero, List.set_cons_succ, i64_w, i32_w]
            rfl
          refine pure_ (i := 3) (N := some 44) (v := ?_) (a' := ?_) #[true, true, true, true, false, false, false, false, false, false, false, false, false, false, false] rfl rfl (any_of HT_.out (by kernel_rfl)) (fun _ _ _ h => h) (Or.inl ⟨by rfl, ?_⟩) ?_ ?_
          rotate_left
          · intro w'
            go_simp
            with_reducible rfl
          rotate_left
          · simp only [Act.put, List.setIfInBounds_toArray, List.set_cons_zero, List.set_cons_succ, i64_w, i32_w]
            rfl
          refine take_ (i := 4) (N := some 45) (v := ?_) (a' := ?_) #[true, true, true, true, true, false, false, false, false, false, false, false, false, false, false] rfl rfl (take_ofW HT_.out HW_.out (by kernel_rfl)) (fun _ _ _ h => h) (Or.inl ⟨by rfl, ?_⟩) hHeld ?_ ?_
          rotate_left
          · rintro w' s0
            go_simp
            with_reducible rfl
          rotate_left
          · simp only [Act.put, List.setIfInBounds_toArray, List.set_cons_zero, List.set_cons_succ, i64_w, i32_w]
            rfl
          refine pure_ (i := 5) (N := some 46) (v := ?_) (a' := ?_) #[true, true, true, true, true, true, false, false, false, false, false, false, false, false, false] rfl rfl (any_of HT_.out (by kernel_rfl)) (fun _ _ _ h => h) (Or.inl ⟨by rfl, ?_⟩) ?_ ?_
          rotate_left
          · intro w'
            go_simp
            with_reducible rfl
          rotate_left
          · simp only [Act.put, List.setIfInBounds_toArray, List.set_cons_zero, List.set_cons_succ, i64_w, i32_w]
            rfl
          refine pure_ (i := 6) (N := some 47) (v := ?_) (a' := ?_) #[true, true, true, true, true, true, true, false, false, false, false, false, false, false, false] rfl rfl (any_of HT_.out (by kernel_rfl)) (fun _ _ _ h => h) (Or.inl ⟨by rfl, ?_⟩) ?_ ?_
          rotate_left
          · intro w'
            go_simp
            with_reducible rfl
          rotate_left
          · simp only [Act.put, List.setIfInBounds_toArray, List.set_cons_zero, List.set_cons_succ, i64_w, i32_w]
            rfl
          refine pure_ (i := 7) (N := some 48) (v := ?_) (a' := ?_) #[true, true, true, true, true, true, true, true, false, false, false, false, false, false, false] rfl rfl (any_of HT_.out (by kernel_rfl)) (fun _ _ _ h => h) (Or.inl ⟨by rfl, ?_⟩) ?_ ?_
          rotate_left
          · intro w'
            go_simp
            with_reducible rfl
          rotate_left
          · simp only [Act.put, List.setIfInBounds_toArray, List.set_cons_zero, List.set_cons_succ, i64_w, i32_w]
            rfl
          refine take_ (i := 8) (N := some 49) (v := ?_) (a' := ?_) #[true, true, true, true, true, true, true, true, true, false, false, false, false, false, false] rfl rfl (take_ofW HT_.out HW_.out (by kernel_rfl)) (fun _ _ _ h => h) (Or.inl ⟨by rfl, ?_⟩) hHeld ?_ ?_
          rotate_left
          · rintro w' s0
            go_simp
            with_reducible rfl
          rotate_left
          · simp only [Act.put, List.setIfInBounds_toArray, List.set_cons_zero, List.set_cons_succ, i64_w, i32_w]
            rfl
          refine pure_ (i := 9) (N := some 50) (v := ?_) (a' := ?_) #[true, true, true, true, true, true, true, true, true, true, false, false, false, false, false] rfl rfl (any_of HT_.out (by kernel_rfl)) (fun _ _ _ h => h) (Or.inl ⟨by rfl, ?_⟩) ?_ ?_
          rotate_left
          · intro w'
            go_simp
            with_reducible rfl
          rotate_left
          · simp only [Act.put, List.setIfInBounds_toArray, List.set_cons_zero, List.set_cons_succ, i64_w, i32_w]
            rfl
          refine pure_ (i := 10) (N := some 51) (v := ?_) (a' := ?_) #[true, true, true, true, true, true, true, true, true, true, true, false, false, false, false] rfl rfl (any_of HT_.out (by kernel_rfl)) (fun _ _ _ h => h) (Or.inl ⟨by rfl, ?_⟩) ?_ ?_
          rotate_left
          · intro w'
            go_simp
            with_reducible rfl
          rotate_left
          · simp only [Act.put, List.setIfInBounds_toArray, List.set_cons_zero, List.set_cons_succ, i64_w, i32_w]
            rfl
          refine pure_ (i := 11) (N := some 52) (v := ?_) (a' := ?_) #[true, true, true, true, true, true, true, true, true, true, true, true, false, false, false] rfl rfl (any_of HT_.out (by kernel_rfl)) (fun _ _ _ h => h) (Or.inl ⟨by rfl, ?_⟩) ?_ ?_
          rotate_left
          · intro w'
            go_simp
            with_reducible rfl
          rotate_left
          · simp only [Act.put, List.setIfInBounds_toArray, List.set_cons_zero, List.set_cons_succ, i64_w, i32_w]
            rfl
          refine one_ (i := 12) (N := some 53) #[true, true, true, true, true, true, true, true, true, true, true, true, true, false, false] rfl rfl (one_of HT_.out (by kernel_rfl)) (by decide) (fun K hK => ?_)
          refine value_ (w1 := ?_) (v := ?_) (by rfl) rfl ?_ ?_
          rotate_left 2
          · go_simp
            constructor
            · rfl
            · rfl
          refine hK.out _ _ (KS.out _ (below_alloc HRd.out _)) (fun hHeld => ?_)
          clear hK K
          refine norm_ (a' := ?_) ?_ ?_
          rotate_left
          · show Act.put _ (some 53) _ = _
            simp only [Act.put, List.setIfInBounds_toArray, List.set_cons_zero, List.set_cons_succ, i64_w, i32_w]
            rfl
          refine one_ (i := 13) (N := some 54) #[true, true, true, true, true, true, true, true, true, true, true, true, true, true, false] rfl rfl (one_of HT_.out (by kernel_rfl)) (by decide) (fun K hK => ?_)
          refine Kd.N_append_step Kd.string (w0 := wB) wB.heap.size ?hw (.tmp 41) (.tmp 53) 35 9 (.string ⟨#[]⟩) 16 ?ho Try.underlying35 info9 ?hz (by decide) (by decide) (.slice A3 (i + 1) c3) (nm :: zs) (s.extract 0 q) [.string (s.extract 0 q)] (fun b => W.heap.size ≤ b) (fun _ => False) ?hs ?hx ?hp ?hokp ?hfresh ?hO ?hB ?hbase ?hl ?_
          (case hw => rfl)
          (case ho => rfl)
          (case hz => rfl)
          (case hs => rfl)
          (case hx => rfl)
          (case hp => exact fun W' _ => rfl)
          (case hokp => exact fun b hb => hb.elim)
          (case hfresh => exact fun b hb => Nat.le_trans (step2 HB.out HRd.out).size hb)
          (case hO => exact HNd.out)
          (case hB => exact HRd.out)
          (case hbase => exact HRd.out.size)
          (case hl => have h1 := HZL.out; simp only [List.length_cons]; omega)
          intro v3 w4 hN3 hb3 hg3 hv3
          obtain ⟨A4, c4, he3⟩ := Kd.N_slice hN3
          rw [show ((nm :: zs) ++ [s.extract 0 q]).length = i + 1 + 1 from by rw [List.length_append, List.length_cons, HZL.out]; rfl] at he3
          subst he3
          have HN3 := Aside0.mk hN3
          have HR3 := Aside0.mk hb3
          clear hN3 hb3 hg3 hv3
          refine hK.out _ _ (KS.out _ HR3.out) (fun hHeld => ?_)
          clear hK K
          refine norm_ (a' := ?_) ?_ ?_
          rotate_left
          · show Act.put _ (some 54) _ = _
            simp only [Act.put, List.setIfInBounds_toArray, List.set_cons_zero, List.set_cons_succ, i64_w, i32_w]
            rfl
          refine pure_ (i := 14) (N := some 7) (v := ?_) (a' := ?_) #[true, true, true, true, true, true, true, true, true, true, true, true, true, true, true] rfl rfl (any_of HT_.out (by kernel_rfl)) (fun _ _ _ h => h) (Or.inl ⟨by rfl, ?_⟩) ?_ ?_
          rotate_left
          · intro w'
            go_simp
            with_reducible rfl
          rotate_left
          · simp only [Act.put, List.setIfInBounds_toArray, List.set_cons_zero, List.set_cons_succ, i64_w, i32_w]
            rfl
          refine done_ (done_of HT_.out (by kernel_rfl)) ?_
          go_wp2_with fail
          go_roundw
          case rel => exact ⟨i + 1, A4, c4, zs ++ [s.extract 0 q], by omega, by omega, by go_num, rfl, ⟨by rw [List.length_append, HZL.out]; rfl⟩, HN3, HR3⟩
          case measure => simp [intOf]; omega
        · have j0 : ¬ (i : Int) + 1 < (10 : Int) := by omega
          go_wp2_with fail
          go_loopw [7] (fun v7 wq => ∃ (m : Nat) (A5 : Option Addr) (c5 : Nat) (zs5 : List ByteArray), m + 1 ≤ 11 ∧ v7 = .slice A5 (m + 1) c5 ∧ Aside0 (zs5.length = m) ∧ Aside0 (Kd.N Kd.string 9 wq wB.heap.size (fun b => W.heap.size ≤ b) (.slice A5 (m + 1) c5) (nm :: zs5)) ∧ Aside0 (Below wB.heap.size wB wq)) (fun v7 _ => 20 - lenOf v7)
          case atStart => exact ⟨i, A3, c3, zs, by omega, rfl, HZL, HN, HR⟩
          case round =>
            obtain ⟨m, A5, c5, zs5, hm5, rfl, HZ5, HN5, HR5⟩ := hrel
            clear x0 x1 x2 xf
            obtain ⟨x0, x1, x2, xf⟩ := cells3 (blk_below HX.out HR5.out)
            by_cases hml : (m : Int) + 1 < -ar
            · go_wp2_with ((with_reducible refine gate_builtin (b := .append) (xs := #[.tmp 70, .tmp 71]) rfl ?_); at_builtin; go_must (refine Kd.N_append Kd.string (w0 := wB) wB.heap.size rfl (.tmp 70) (.tmp 71) 35 9 (.string ⟨#[]⟩) 16 rfl Try.underlying35 info9 rfl (by decide) (by decide) (.slice A5 (m + 1) c5) (nm :: zs5) (⟨#[49]⟩ : ByteArray) [.string (⟨#[49]⟩ : ByteArray)] (fun b => W.heap.size ≤ b) (fun _ => False) (by rfl) (by rfl) (fun W' _ => rfl) (fun _ h => h.elim) (fun b hb => Nat.le_trans (step2 HB.out HR5.out).size hb) HN5.out HR5.out HR5.out.size (by have h1 := HZ5.out; simp only [List.length_cons]; omega) ?_); go_must (intro v6 w6 hN6 hb6 hg6 _; obtain ⟨A6, c6, he6⟩ := Kd.N_slice hN6; rw [show ((nm :: zs5) ++ [(⟨#[49]⟩ : ByteArray)]).length = m + 1 + 1 from by rw [List.length_append, List.length_cons, HZ5.out]; rfl] at he6; subst he6; have HN6 := Aside0.mk hN6; have HR6 := Aside0.mk hb6; clear hN6 hb6 hg6))
              go_roundw
              case rel => exact ⟨m + 1, A6, c6, zs5 ++ [(⟨#[49]⟩ : ByteArray)], by omega, rfl, ⟨by rw [List.length_append, HZ5.out]; rfl⟩, HN6, HR6⟩
              case measure => simp [lenOf]; omega
            · by_cases hk8 : k = 8
              · have b1 : (nm.toList == [109, 115, 101, 116]) = true := by rw [H5.out]; simpa using hk8
                have HK8 := Aside0.mk hk8
                clear hk8
                by_cases hpar : (m + 1) % 2 = 0
                · have b2 : (((m : Int) + 1) % 2 == 0) = true := by simp; omega
                  go_wp2_with ((with_reducible refine gate_builtin (b := .append) (xs := #[.tmp 70, .tmp 71]) rfl ?_); at_builtin; go_must (refine Kd.N_append Kd.string (w0 := wB) wB.heap.size rfl (.tmp 70) (.tmp 71) 35 9 (.string ⟨#[]⟩) 16 rfl Try.underlying35 info9 rfl (by decide) (by decide) (.slice A5 (m + 1) c5) (nm :: zs5) (⟨#[49]⟩ : ByteArray) [.string (⟨#[49]⟩ : ByteArray)] (fun b => W.heap.size ≤ b) (fun _ => False) (by rfl) (by rfl) (fun W' _ => rfl) (fun _ h => h.elim) (fun b hb => Nat.le_trans (step2 HB.out HR5.out).size hb) HN5.out HR5.out HR5.out.size (by have h1 := HZ5.out; simp only [List.length_cons]; omega) ?_); go_must (intro v6 w6 hN6 hb6 hg6 _; obtain ⟨A6, c6, he6⟩ := Kd.N_slice hN6; rw [show ((nm :: zs5) ++ [(⟨#[49]⟩ : ByteArray)]).length = m + 1 + 1 from by rw [List.length_append, List.length_cons, HZ5.out]; rfl] at he6; subst he6; have HN6 := Aside0.mk hN6; have HR6 := Aside0.mk hb6; clear hN6 hb6 hg6))
                  go_roundw
                  case rel => exact ⟨m + 1, A6, c6, zs5 ++ [(⟨#[49]⟩ : ByteArray)], by omega, rfl, ⟨by rw [List.length_append, HZ5.out]; rfl⟩, HN6, HR6⟩
                  case measure => simp [lenOf]; omega
                · have b2 : (((m : Int) + 1) % 2 == 0) = false := by simp; omega
                  go_wp2_with fail
                  refine bodyPost_ret (v := .slice A5 (m + 1) c5) (by simp [results, Try.results25, go_sem]) rfl ?_
                  unfold FitSaid
                  exact ⟨A5, m + 1, c5, nm :: zs5, rfl, (Kd.N_reads' HN5.out).2.1, ⟨Kd.F_mono (Kd.N_F HN5.out) (fun b hb => hb)⟩, rfl, by unfold fitsB; simp only [Bool.or_eq_true, Bool.and_eq_true, decide_eq_true_eq, beq_iff_eq]; omega, fun h8 => by omega, by omega, ⟨step2 HB.out HR5.out⟩⟩
              · have b1 : (nm.toList == [109, 115, 101, 116]) = false := by rw [H5.out]; simpa using hk8
                have HK8 := Aside0.mk hk8
                clear hk8
                go_wp2_with fail
                refine bodyPost_ret (v := .slice A5 (m + 1) c5) (by simp [results, Try.results25, go_sem]) rfl ?_
                unfold FitSaid
                exact ⟨A5, m + 1, c5, nm :: zs5, rfl, (Kd.N_reads' HN5.out).2.1, ⟨Kd.F_mono (Kd.N_F HN5.out) (fun b hb => hb)⟩, rfl, by unfold fitsB; simp only [Bool.or_eq_true, Bool.and_eq_true, decide_eq_true_eq, beq_iff_eq]; omega, fun h8 => by exact absurd h8 HK8.out, by omega, ⟨step2 HB.out HR5.out⟩⟩
      · have i0 : ¬ (i : Int) < (n : Int) := by omega
        go_wp2_with fail
        go_loopw [7] (fun v7 wq => ∃ (m : Nat) (A5 : Option Addr) (c5 : Nat) (zs5 : List ByteArray), m + 1 ≤ 11 ∧ v7 = .slice A5 (m + 1) c5 ∧ Aside0 (zs5.length = m) ∧ Aside0 (Kd.N Kd.string 9 wq wB.heap.size (fun b => W.heap.size ≤ b) (.slice A5 (m + 1) c5) (nm :: zs5)) ∧ Aside0 (Below wB.heap.size wB wq)) (fun v7 _ => 20 - lenOf v7)
        case atStart => exact ⟨i, A3, c3, zs, by omega, rfl, HZL, HN, HR⟩
        case round =>
          obtain ⟨m, A5, c5, zs5, hm5, rfl, HZ5, HN5, HR5⟩ := hrel
          clear x0 x1 x2 xf
          obtain ⟨x0, x1, x2, xf⟩ := cells3 (blk_below HX.out HR5.out)
          by_cases hml : (m : Int) + 1 < -ar
          · go_wp2_with ((with_reducible refine gate_builtin (b := .append) (xs := #[.tmp 70, .tmp 71]) rfl ?_); at_builtin; go_must (refine Kd.N_append Kd.string (w0 := wB) wB.heap.size rfl (.tmp 70) (.tmp 71) 35 9 (.string ⟨#[]⟩) 16 rfl Try.underlying35 info9 rfl (by decide) (by decide) (.slice A5 (m + 1) c5) (nm :: zs5) (⟨#[49]⟩ : ByteArray) [.string (⟨#[49]⟩ : ByteArray)] (fun b => W.heap.size ≤ b) (fun _ => False) (by rfl) (by rfl) (fun W' _ => rfl) (fun _ h => h.elim) (fun b hb => Nat.le_trans (step2 HB.out HR5.out).size hb) HN5.out HR5.out HR5.out.size (by have h1 := HZ5.out; simp only [List.length_cons]; omega) ?_); go_must (intro v6 w6 hN6 hb6 hg6 _; obtain ⟨A6, c6, he6⟩ := Kd.N_slice hN6; rw [show ((nm :: zs5) ++ [(⟨#[49]⟩ : ByteArray)]).length = m + 1 + 1 from by rw [List.length_append, List.length_cons, HZ5.out]; rfl] at he6; subst he6; have HN6 := Aside0.mk hN6; have HR6 := Aside0.mk hb6; clear hN6 hb6 hg6))
            go_roundw
            case rel => exact ⟨m + 1, A6, c6, zs5 ++ [(⟨#[49]⟩ : ByteArray)], by omega, rfl, ⟨by rw [List.length_append, HZ5.out]; rfl⟩, HN6, HR6⟩
            case measure => simp [lenOf]; omega
          · by_cases hk8 : k = 8
            · have b1 : (nm.toList == [109, 115, 101, 116]) = true := by rw [H5.out]; simpa using hk8
              have HK8 := Aside0.mk hk8
              clear hk8
              by_cases hpar : (m + 1) % 2 = 0
              · have b2 : (((m : Int) + 1) % 2 == 0) = true := by simp; omega
                go_wp2_with ((with_reducible refine gate_builtin (b := .append) (xs := #[.tmp 70, .tmp 71]) rfl ?_); at_builtin; go_must (refine Kd.N_append Kd.string (w0 := wB) wB.heap.size rfl (.tmp 70) (.tmp 71) 35 9 (.string ⟨#[]⟩) 16 rfl Try.underlying35 info9 rfl (by decide) (by decide) (.slice A5 (m + 1) c5) (nm :: zs5) (⟨#[49]⟩ : ByteArray) [.string (⟨#[49]⟩ : ByteArray)] (fun b => W.heap.size ≤ b) (fun _ => False) (by rfl) (by rfl) (fun W' _ => rfl) (fun _ h => h.elim) (fun b hb => Nat.le_trans (step2 HB.out HR5.out).size hb) HN5.out HR5.out HR5.out.size (by have h1 := HZ5.out; simp only [List.length_cons]; omega) ?_); go_must (intro v6 w6 hN6 hb6 hg6 _; obtain ⟨A6, c6, he6⟩ := Kd.N_slice hN6; rw [show ((nm :: zs5) ++ [(⟨#[49]⟩ : ByteArray)]).length = m + 1 + 1 from by rw [List.length_append, List.length_cons, HZ5.out]; rfl] at he6; subst he6; have HN6 := Aside0.mk hN6; have HR6 := Aside0.mk hb6; clear hN6 hb6 hg6))
                go_roundw
                case rel => exact ⟨m + 1, A6, c6, zs5 ++ [(⟨#[49]⟩ : ByteArray)], by omega, rfl, ⟨by rw [List.length_append, HZ5.out]; rfl⟩, HN6, HR6⟩
                case measure => simp [lenOf]; omega
              · have b2 : (((m : Int) + 1) % 2 == 0) = false := by simp; omega
                go_wp2_with fail
                refine bodyPost_ret (v := .slice A5 (m + 1) c5) (by simp [results, Try.results25, go_sem]) rfl ?_
                unfold FitSaid
                exact ⟨A5, m + 1, c5, nm :: zs5, rfl, (Kd.N_reads' HN5.out).2.1, ⟨Kd.F_mono (Kd.N_F HN5.out) (fun b hb => hb)⟩, rfl, by unfold fitsB; simp only [Bool.or_eq_true, Bool.and_eq_true, decide_eq_true_eq, beq_iff_eq]; omega, fun h8 => by omega, by omega, ⟨step2 HB.out HR5.out⟩⟩
            · have b1 : (nm.toList == [109, 115, 101, 116]) = false := by rw [H5.out]; simpa using hk8
              have HK8 := Aside0.mk hk8
              clear hk8
              go_wp2_with fail
              refine bodyPost_ret (v := .slice A5 (m + 1) c5) (by simp [results, Try.results25, go_sem]) rfl ?_
              unfold FitSaid
              exact ⟨A5, m + 1, c5, nm :: zs5, rfl, (Kd.N_reads' HN5.out).2.1, ⟨Kd.F_mono (Kd.N_F HN5.out) (fun b hb => hb)⟩, rfl, by unfold fitsB; simp only [Bool.or_eq_true, Bool.and_eq_true, decide_eq_true_eq, beq_iff_eq]; omega, fun h8 => by exact absurd h8 HK8.out, by omega, ⟨step2 HB.out HR5.out⟩⟩
  · go_enter Try.func25, Try.ntmps25
    go_wp2_with (first
      | (go_at_call 26; refine (HAT.out _).mono ?_; rintro e w1 ⟨rfl, hb1⟩; have HX := Aside0.mk (blk_new w1 (.cells #[.string nm, .int .i64 ar, .int .u16 ca] 26)); have HB := Aside0.mk (below_alloc hb1 (.cells #[.string nm, .int .i64 ar, .int .u16 ca] 26)); clear hb1; obtain ⟨x0, x1, x2, xf⟩ := cells3 HX.out)
      | ((with_reducible refine gate_dst (N := 18) rfl ?_); go_must (refine Kd.N_lit Kd.string (w0 := w1.alloc (.cells #[.string nm, .int .i64 ar, .int .u16 ca] 26)) (w1.alloc (.cells #[.string nm, .int .i64 ar, .int .u16 ca] 26)).heap.size 9 rfl (N' := 18) rfl (xs := [nm]) (inner := [.string nm]) (ok := fun b => W.heap.size ≤ b) (okp := fun _ => False) (by go_simp; try rfl) (texts_reps (fun c => fun W' _ => rfl) [nm]) (fun _ hk => hk.elim) HB.out.size (Below.refl _ _) (Nat.le_refl _) (by simp) ?_); go_must (intro v3 w3 hN hb hg1 hv; obtain ⟨wB, hwB⟩ : ∃ wB, wB = w1.alloc (.cells #[.string nm, .int .i64 ar, .int .u16 ca] 26) := ⟨_, rfl⟩; rw [← hwB] at hN hb HB HX; obtain ⟨A1, c1, rfl⟩ := Kd.N_slice hN; obtain ⟨n1, hn1⟩ : ∃ n1, n1 = [nm].length := ⟨_, rfl⟩; rw [← hn1] at hN ⊢; have HN1 := Aside0.mk hN; have hn1' : n1 = 1 := hn1; have HR := Aside0.mk hb; clear x0 x1 x2 xf; obtain ⟨x0, x1, x2, xf⟩ := cells3 (blk_below HX.out hb); clear hN hb hg1 hv hn1 hwB)))
    clear x0 x1 x2 xf
    go_loopw [7, 10] (fun v7 v10 wr => ∃ (i : Nat) (A3 : Option Addr) (c3 : Nat) (zs : List ByteArray), i ≤ n ∧ (i : Int) + 1 ≤ ar ∧ v10 = .int .i64 i ∧ v7 = .slice A3 (i + 1) c3 ∧ Aside0 (zs.length = i) ∧ Aside0 (Kd.N Kd.string 9 wr wB.heap.size (fun b => W.heap.size ≤ b) (.slice A3 (i + 1) c3) (nm :: zs)) ∧ Aside0 (Below wB.heap.size wB wr)) (fun _ v10 _ => n - (intOf v10).toNat)
    case atStart => exact ⟨0, A1, c1, [], Nat.zero_le _, by omega, rfl, rfl, ⟨rfl⟩, ⟨by have h := HN1.out; rw [hn1'] at h; exact h⟩, HR⟩
    case round =>
      obtain ⟨i, A3, c3, zs, hin, hmm, rfl, rfl, HZL, HN, HR⟩ := hrel
      obtain ⟨x0, x1, x2, xf⟩ := cells3 (blk_below HX.out HR.out)
      by_cases hi : i < n
      · have i0 : (i : Int) < (n : Int) := by omega
        have i1 : (0 : Int) ≤ (i : Int) := by omega
        by_cases hm : (i : Int) + 1 < ar
        · have j0 : (i : Int) + 1 < ar := by omega
          obtain ⟨ad, hl, rfl, c0⟩ := text_at (Kd.F_below HFY.out (step2 HB.out HR.out)) i hi
          obtain ⟨s, hs⟩ : ∃ s, s = ys[i] := ⟨_, rfl⟩
          rw [← hs] at c0
          obtain ⟨q, hq⟩ : ∃ q : Nat, (if (20 : Int) < (s.size : Int) then (20 : Int) else (s.size : Int)) = (q : Int) := ⟨min s.size 20, by split <;> omega⟩
          have q0 : (0 : Int) ≤ (q : Int) := by omega
          have q1 : (q : Int) ≤ (s.size : Int) := by split at hq <;> omega
          have q2 : q ≤ s.size := by omega
          have HRd := Aside0.mk HR.out.drew
          have HNd := Aside0.mk (Kd.N_drew HN.out)
          have KS : Aside0 (∀ w : World, Below wB.heap.size wB w → w.cell? (ad.add i) = some (.string s)) := ⟨fun w h => by have h1 := text_at (Kd.F_below HFY.out (step2 HB.out h)) i hi; obtain ⟨ad', hl', e, c⟩ := h1; injection e with e; subst e; rw [hs] ; exact c⟩
          clear hs c0 x0 x1 x2 xf HN HR
          go_wp2_with fail
          refine start_ (n := 15) (S := fun w' => w'.cell? (ad.add i) = some (.string s)) (ds := []) #[false, false, false, false, false, false, false, false, false, false, false, false, false, false, false] (by kernel_rfl) rfl rfl (KS.out _ HRd.out) (fun hHeld => with_tabW fit10_tab fit10_bits (fun HT_ HW_ => ?_))
          generalize wr.drew = wd at HRd HNd hHeld ⊢
          refine pure_ (i := 0) (N := some 41) (v := ?_) (a' := ?_) #[true, false, false, false, false, false, false, false, false, false, false, false, false, false, false] rfl rfl (any_of HT_.out (by kernel_rfl)) (fun _ _ _ h => h) (Or.inl ⟨by rfl, ?_⟩) ?_ ?_
          rotate_left
          · intro w'
            go_simp
            with_reducible rfl
          rotate_left
          · simp only [Act.put, List.setIfInBounds_toArray, List.set_cons_zero, List.set_cons_succ, i64_w, i32_w]
            rfl
          refine pure_ (i := 1) (N := some 42) (v := ?_) (a' := ?_) #[true, true, false, false, false, false, false, false, false, false, false, false, false, false, false] rfl rfl (any_of HT_.out (by kernel_rfl)) (fun _ _ _ h => h) (Or.inl ⟨by rfl, ?_⟩) ?_ ?_
          rotate_left
          · intro w'
            go_simp
            with_reducible rfl
          rotate_left
          · simp only [Act.put, List.setIfInBounds_toArray, List.set_cons_zero, List.set_cons_succ, i64_w, i32_w]
            rfl
          refine pure_ (i := 2) (N := some 43) (v := ?_) (a' := ?_) #[true, true, true, false, false, false, false, false, false, false, false, false, false, false, false] rfl rfl (any_of HT_.out (by kernel_rfl)) (fun _ _ _ h => h) (Or.inl ⟨by rfl, ?_⟩) ?_ ?_
          rotate_left
          · intro w'
            go_simp
            with_reducible rfl
          rotate_left
          · simp only [Act.put, List.setIfInBounds_toArray, List.set_cons_zero, List.set_cons_succ, i64_w, i32_w]
            rfl
          refine pure_ (i := 3) (N := some 44) (v := ?_) (a' := ?_) #[true, true, true, true, false, false, false, false, false, false, false, false, false, false, false] rfl rfl (any_of HT_.out (by kernel_rfl)) (fun _ _ _ h => h) (Or.inl ⟨by rfl, ?_⟩) ?_ ?_
          rotate_left
          · intro w'
            go_simp
            with_reducible rfl
          rotate_left
          · simp only [Act.put, List.setIfInBounds_toArray, List.set_cons_zero, List.set_cons_succ, i64_w, i32_w]
            rfl
          refine take_ (i := 4) (N := some 45) (v := ?_) (a' := ?_) #[true, true, true, true, true, false, false, false, false, false, false, false, false, false, false] rfl rfl (take_ofW HT_.out HW_.out (by kernel_rfl)) (fun _ _ _ h => h) (Or.inl ⟨by rfl, ?_⟩) hHeld ?_ ?_
          rotate_left
          · rintro w' s0
            go_simp
            with_reducible rfl
          rotate_left
          · simp only [Act.put, List.setIfInBounds_toArray, List.set_cons_zero, List.set_cons_succ, i64_w, i32_w]
            rfl
          refine pure_ (i := 5) (N := some 46) (v := ?_) (a' := ?_) #[true, true, true, true, true, true, false, false, false, false, false, false, false, false, false] rfl rfl (any_of HT_.out (by kernel_rfl)) (fun _ _ _ h => h) (Or.inl ⟨by rfl, ?_⟩) ?_ ?_
          rotate_left
          · intro w'
            go_simp
            with_reducible rfl
          rotate_left
          · simp only [Act.put, List.setIfInBounds_toArray, List.set_cons_zero, List.set_cons_succ, i64_w, i32_w]
            rfl
          refine pure_ (i := 6) (N := some 47) (v := ?_) (a' := ?_) #[true, true, true, true, true, true, true, false, false, false, false, false, false, false, false] rfl rfl (any_of HT_.out (by kernel_rfl)) (fun _ _ _ h => h) (Or.inl ⟨by rfl, ?_⟩) ?_ ?_
          rotate_left
          · intro w'
            go_simp
            with_reducible rfl
          rotate_left
          · simp only [Act.put, List.setIfInBounds_toArray, List.set_cons_zero, List.set_cons_succ, i64_w, i32_w]
            rfl
          refine pure_ (i := 7) (N := some 48) (v := ?_) (a' := ?_) #[true, true, true, true, true, true, true, true, false, false, false, false, false, false, false] rfl rfl (any_of HT_.out (by kernel_rfl)) (fun _ _ _ h => h) (Or.inl ⟨by rfl, ?_⟩) ?_ ?_
          rotate_left
          · intro w'
            go_simp
            with_reducible rfl
          rotate_left
          · simp only [Act.put, List.setIfInBounds_toArray, List.set_cons_zero, List.set_cons_succ, i64_w, i32_w]
            rfl
          refine take_ (i := 8) (N := some 49) (v := ?_) (a' := ?_) #[true, true, true, true, true, true, true, true, true, false, false, false, false, false, false] rfl rfl (take_ofW HT_.out HW_.out (by kernel_rfl)) (fun _ _ _ h => h) (Or.inl ⟨by rfl, ?_⟩) hHeld ?_ ?_
          rotate_left
          · rintro w' s0
            go_simp
            with_reducible rfl
          rotate_left
          · simp only [Act.put, List.setIfInBounds_toArray, List.set_cons_zero, List.set_cons_succ, i64_w, i32_w]
            rfl
          refine pure_ (i := 9) (N := some 50) (v := ?_) (a' := ?_) #[true, true, true, true, true, true, true, true, true, true, false, false, false, false, false] rfl rfl (any_of HT_.out (by kernel_rfl)) (fun _ _ _ h => h) (Or.inl ⟨by rfl, ?_⟩) ?_ ?_
          rotate_left
          · intro w'
            go_simp
            with_reducible rfl
          rotate_left
          · simp only [Act.put, List.setIfInBounds_toArray, List.set_cons_zero, List.set_cons_succ, i64_w, i32_w]
            rfl
          refine pure_ (i := 10) (N := some 51) (v := ?_) (a' := ?_) #[true, true, true, true, true, true, true, true, true, true, true, false, false, false, false] rfl rfl (any_of HT_.out (by kernel_rfl)) (fun _ _ _ h => h) (Or.inl ⟨by rfl, ?_⟩) ?_ ?_
          rotate_left
          · intro w'
            go_simp
            with_reducible rfl
          rotate_left
          · simp only [Act.put, List.setIfInBounds_toArray, List.set_cons_zero, List.set_cons_succ, i64_w, i32_w]
            rfl
          refine pure_ (i := 11) (N := some 52) (v := ?_) (a' := ?_) #[true, true, true, true, true, true, true, true, true, true, true, true, false, false, false] rfl rfl (any_of HT_.out (by kernel_rfl)) (fun _ _ _ h => h) (Or.inl ⟨by rfl, ?_⟩) ?_ ?_
          rotate_left
          · intro w'
            go_simp
            with_reducible rfl
          rotate_left
          · simp only [Act.put, List.setIfInBounds_toArray, List.set_cons_zero, List.set_cons_succ, i64_w, i32_w]
            rfl
          refine one_ (i := 12) (N := some 53) #[true, true, true, true, true, true, true, true, true, true, true, true, true, false, false] rfl rfl (one_of HT_.out (by kernel_rfl)) (by decide) (fun K hK => ?_)
          refine value_ (w1 := ?_) (v := ?_) (by rfl) rfl ?_ ?_
          rotate_left 2
          · go_simp
            constructor
            · rfl
            · rfl
          refine hK.out _ _ (KS.out _ (below_alloc HRd.out _)) (fun hHeld => ?_)
          clear hK K
          refine norm_ (a' := ?_) ?_ ?_
          rotate_left
          · show Act.put _ (some 53) _ = _
            simp only [Act.put, List.setIfInBounds_toArray, List.set_cons_zero, List.set_cons_succ, i64_w, i32_w]
            rfl
          refine one_ (i := 13) (N := some 54) #[true, true, true, true, true, true, true, true, true, true, true, true, true, true, false] rfl rfl (one_of HT_.out (by kernel_rfl)) (by decide) (fun K hK => ?_)
          refine Kd.N_append_step Kd.string (w0 := wB) wB.heap.size ?hw (.tmp 41) (.tmp 53) 35 9 (.string ⟨#[]⟩) 16 ?ho Try.underlying35 info9 ?hz (by decide) (by decide) (.slice A3 (i + 1) c3) (nm :: zs) (s.extract 0 q) [.string (s.extract 0 q)] (fun b => W.heap.size ≤ b) (fun _ => False) ?hs ?hx ?hp ?hokp ?hfresh ?hO ?hB ?hbase ?hl ?_
          (case hw => rfl)
          (case ho => rfl)
          (case hz => rfl)
          (case hs => rfl)
          (case hx => rfl)
          (case hp => exact fun W' _ => rfl)
          (case hokp => exact fun b hb => hb.elim)
          (case hfresh => exact fun b hb => Nat.le_trans (step2 HB.out HRd.out).size hb)
          (case hO => exact HNd.out)
          (case hB => exact HRd.out)
          (case hbase => exact HRd.out.size)
          (case hl => have h1 := HZL.out; simp only [List.length_cons]; omega)
          intro v3 w4 hN3 hb3 hg3 hv3
          obtain ⟨A4, c4, he3⟩ := Kd.N_slice hN3
          rw [show ((nm :: zs) ++ [s.extract 0 q]).length = i + 1 + 1 from by rw [List.length_append, List.length_cons, HZL.out]; rfl] at he3
          subst he3
          have HN3 := Aside0.mk hN3
          have HR3 := Aside0.mk hb3
          clear hN3 hb3 hg3 hv3
          refine hK.out _ _ (KS.out _ HR3.out) (fun hHeld => ?_)
          clear hK K
          refine norm_ (a' := ?_) ?_ ?_
          rotate_left
          · show Act.put _ (some 54) _ = _
            simp only [Act.put, List.setIfInBounds_toArray, List.set_cons_zero, List.set_cons_succ, i64_w, i32_w]
            rfl
          refine pure_ (i := 14) (N := some 7) (v := ?_) (a' := ?_) #[true, true, true, true, true, true, true, true, true, true, true, true, true, true, true] rfl rfl (any_of HT_.out (by kernel_rfl)) (fun _ _ _ h => h) (Or.inl ⟨by rfl, ?_⟩) ?_ ?_
          rotate_left
          · intro w'
            go_simp
            with_reducible rfl
          rotate_left
          · simp only [Act.put, List.setIfInBounds_toArray, List.set_cons_zero, List.set_cons_succ, i64_w, i32_w]
            rfl
          refine done_ (done_of HT_.out (by kernel_rfl)) ?_
          go_wp2_with fail
          go_roundw
          case rel => exact ⟨i + 1, A4, c4, zs ++ [s.extract 0 q], by omega, by omega, by go_num, rfl, ⟨by rw [List.length_append, HZL.out]; rfl⟩, HN3, HR3⟩
          case measure => simp [intOf]; omega
        · have j0 : ¬ (i : Int) + 1 < ar := by omega
          go_wp2_with fail
          go_loopw [7] (fun v7 wq => ∃ (m : Nat) (A5 : Option Addr) (c5 : Nat) (zs5 : List ByteArray), (m : Int) + 1 ≤ ar ∧ v7 = .slice A5 (m + 1) c5 ∧ Aside0 (zs5.length = m) ∧ Aside0 (Kd.N Kd.string 9 wq wB.heap.size (fun b => W.heap.size ≤ b) (.slice A5 (m + 1) c5) (nm :: zs5)) ∧ Aside0 (Below wB.heap.size wB wq)) (fun v7 _ => 20 - lenOf v7)
          case atStart => exact ⟨i, A3, c3, zs, by omega, rfl, HZL, HN, HR⟩
          case round =>
            obtain ⟨m, A5, c5, zs5, hm5, rfl, HZ5, HN5, HR5⟩ := hrel
            clear x0 x1 x2 xf
            obtain ⟨x0, x1, x2, xf⟩ := cells3 (blk_below HX.out HR5.out)
            by_cases hml : (m : Int) + 1 < ar
            · go_wp2_with ((with_reducible refine gate_builtin (b := .append) (xs := #[.tmp 70, .tmp 71]) rfl ?_); at_builtin; go_must (refine Kd.N_append Kd.string (w0 := wB) wB.heap.size rfl (.tmp 70) (.tmp 71) 35 9 (.string ⟨#[]⟩) 16 rfl Try.underlying35 info9 rfl (by decide) (by decide) (.slice A5 (m + 1) c5) (nm :: zs5) (⟨#[49]⟩ : ByteArray) [.string (⟨#[49]⟩ : ByteArray)] (fun b => W.heap.size ≤ b) (fun _ => False) (by rfl) (by rfl) (fun W' _ => rfl) (fun _ h => h.elim) (fun b hb => Nat.le_trans (step2 HB.out HR5.out).size hb) HN5.out HR5.out HR5.out.size (by have h1 := HZ5.out; simp only [List.length_cons]; omega) ?_); go_must (intro v6 w6 hN6 hb6 hg6 _; obtain ⟨A6, c6, he6⟩ := Kd.N_slice hN6; rw [show ((nm :: zs5) ++ [(⟨#[49]⟩ : ByteArray)]).length = m + 1 + 1 from by rw [List.length_append, List.length_cons, HZ5.out]; rfl] at he6; subst he6; have HN6 := Aside0.mk hN6; have HR6 := Aside0.mk hb6; clear hN6 hb6 hg6))
              go_roundw
              case rel => exact ⟨m + 1, A6, c6, zs5 ++ [(⟨#[49]⟩ : ByteArray)], by omega, rfl, ⟨by rw [List.length_append, HZ5.out]; rfl⟩, HN6, HR6⟩
              case measure => simp [lenOf]; omega
            · have b1 : (nm.toList == [109, 115, 101, 116]) = false := by rw [H5.out]; simp; intro h8; have := H4.out h8; omega
              go_wp2_with fail
              refine bodyPost_ret (v := .slice A5 (m + 1) c5) (by simp [results, Try.results25, go_sem]) rfl ?_
              unfold FitSaid
              exact ⟨A5, m + 1, c5, nm :: zs5, rfl, (Kd.N_reads' HN5.out).2.1, ⟨Kd.F_mono (Kd.N_F HN5.out) (fun b hb => hb)⟩, rfl, by unfold fitsB; simp only [Bool.or_eq_true, Bool.and_eq_true, decide_eq_true_eq, beq_iff_eq]; omega, fun h8 => by have := H4.out h8; omega, by omega, ⟨step2 HB.out HR5.out⟩⟩
      · have i0 : ¬ (i : Int) < (n : Int) := by omega
        go_wp2_with fail
        go_loopw [7] (fun v7 wq => ∃ (m : Nat) (A5 : Option Addr) (c5 : Nat) (zs5 : List ByteArray), (m : Int) + 1 ≤ ar ∧ v7 = .slice A5 (m + 1) c5 ∧ Aside0 (zs5.length = m) ∧ Aside0 (Kd.N Kd.string 9 wq wB.heap.size (fun b => W.heap.size ≤ b) (.slice A5 (m + 1) c5) (nm :: zs5)) ∧ Aside0 (Below wB.heap.size wB wq)) (fun v7 _ => 20 - lenOf v7)
        case atStart => exact ⟨i, A3, c3, zs, by omega, rfl, HZL, HN, HR⟩
        case round =>
          obtain ⟨m, A5, c5, zs5, hm5, rfl, HZ5, HN5, HR5⟩ := hrel
          clear x0 x1 x2 xf
          obtain ⟨x0, x1, x2, xf⟩ := cells3 (blk_below HX.out HR5.out)
          by_cases hml : (m : Int) + 1 < ar
          · go_wp2_with ((with_reducible refine gate_builtin (b := .append) (xs := #[.tmp 70, .tmp 71]) rfl ?_); at_builtin; go_must (refine Kd.N_append Kd.string (w0 := wB) wB.heap.size rfl (.tmp 70) (.tmp 71) 35 9 (.string ⟨#[]⟩) 16 rfl Try.underlying35 info9 rfl (by decide) (by decide) (.slice A5 (m + 1) c5) (nm :: zs5) (⟨#[49]⟩ : ByteArray) [.string (⟨#[49]⟩ : ByteArray)] (fun b => W.heap.size ≤ b) (fun _ => False) (by rfl) (by rfl) (fun W' _ => rfl) (fun _ h => h.elim) (fun b hb => Nat.le_trans (step2 HB.out HR5.out).size hb) HN5.out HR5.out HR5.out.size (by have h1 := HZ5.out; simp only [List.length_cons]; omega) ?_); go_must (intro v6 w6 hN6 hb6 hg6 _; obtain ⟨A6, c6, he6⟩ := Kd.N_slice hN6; rw [show ((nm :: zs5) ++ [(⟨#[49]⟩ : ByteArray)]).length = m + 1 + 1 from by rw [List.length_append, List.length_cons, HZ5.out]; rfl] at he6; subst he6; have HN6 := Aside0.mk hN6; have HR6 := Aside0.mk hb6; clear hN6 hb6 hg6))
            go_roundw
            case rel => exact ⟨m + 1, A6, c6, zs5 ++ [(⟨#[49]⟩ : ByteArray)], by omega, rfl, ⟨by rw [List.length_append, HZ5.out]; rfl⟩, HN6, HR6⟩
            case measure => simp [lenOf]; omega
          · have b1 : (nm.toList == [109, 115, 101, 116]) = false := by rw [H5.out]; simp; intro h8; have := H4.out h8; omega
            go_wp2_with fail
            refine bodyPost_ret (v := .slice A5 (m + 1) c5) (by simp [results, Try.results25, go_sem]) rfl ?_
            unfold FitSaid
            exact ⟨A5, m + 1, c5, nm :: zs5, rfl, (Kd.N_reads' HN5.out).2.1, ⟨Kd.F_mono (Kd.N_F HN5.out) (fun b hb => hb)⟩, rfl, by unfold fitsB; simp only [Bool.or_eq_true, Bool.and_eq_true, decide_eq_true_eq, beq_iff_eq]; omega, fun h8 => by have := H4.out h8; omega, by omega, ⟨step2 HB.out HR5.out⟩⟩
end Go.Proofs.Ytflnpgfddedahaa.U
