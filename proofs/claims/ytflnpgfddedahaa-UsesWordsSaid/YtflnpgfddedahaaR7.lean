/- UsesWords, walked. -/
import Derived.Test.YtflnpgfddedahaaR5
import Derived.Test.YtflnpgfddedahaaR6
import Derived.Deep.QuietTactic
import Derived.BigQuiet
namespace Go.Proofs.Ytflnpgfddedahaa.U
open Go.RowKit Go.Great Go.Proofs.YtflnpgfddedahaaW.PrintWords
set_option linter.unusedVariables false
set_option linter.unusedSimpArgs false
theorem keysLen_le (k n : Nat) (h : n ≤ 31) : keysLen k n ≤ 1000000 := by
  unfold keysLen
  split <;> first | omega | (split <;> omega)
theorem chansLen_le (k n : Nat) (h : n ≤ 31) : chansLen k n ≤ 1000000 := by
  unfold chansLen
  split <;> omega
theorem F_none (w : World) (ok : Nat → Prop) (A : Option Addr) : Kd.F Kd.string w ok A 0 [] := fun W' _ => ⟨rfl, by simp, fun h => absurd h (Nat.lt_irrefl 0)⟩
theorem of_not (k : Nat) (hk : k < 56) (xs : List ByteArray) (h0 : word xs 0 = (cmdOf k).name) (hl : 1 ≤ xs.length) (hf : ¬ (fitsB (cmdOf k) xs.length = true ∧ (k = 8 → xs.length % 2 = 1))) : ofS xs = (zeroNeed, 1) := by
  unfold ofS
  rw [if_neg (by omega), h0, (ids_all k hk).1]
  show (if _ then _ else _) = _
  rw [if_neg (fun h => hf ⟨h.1, fun h8 => by have := h.2; omega⟩)]
set_option maxHeartbeats 16000000 in
set_option maxRecDepth 100000 in
theorem words8_calls (d : Nat) (hd : d < 256) (A : Option Addr) (N C : Nat) (xs : List ByteArray) (ok : Nat → Prop) (W : World) (hF : Kd.F Kd.string W ok A N xs) (hlc : N ≤ C) :
    Calls Try.prog 9 #[.int .u8 d, .slice A N C] W fun e W' => e = .returned (.bool true) ∧ Below W.heap.size W W' := by
  have hxl := Kd.F_len hF
  obtain ⟨m, hm⟩ : ∃ m, m = min N 30 := ⟨_, rfl⟩
  obtain ⟨ys, hys⟩ : ∃ ys, ys = xs.take m := ⟨_, rfl⟩
  have HYL : Aside0 (ys.length = m) := ⟨by rw [hys, List.length_take]; omega⟩
  have HY : Aside0 (Kd.F Kd.string W ok A m ys) := ⟨by
    subst hxl
    have h := Kd.F_take hF (m := m) (by omega)
    rw [← hys] at h
    rw [HYL.out] at h
    exact h⟩
  clear hF hys hxl
  have hm30 : m ≤ 30 := by omega
  have hmc : m ≤ C := by omega
  obtain ⟨k, hkd⟩ : ∃ k : Nat, (d : Int) % 56 = (k : Int) := ⟨d % 56, by omega⟩
  have hk : k < 56 := by omega
  have HK := Aside0.mk hk
  have AT := Aside0.mk (fun w => refAt_in k w hk)
  have FI : Aside0 (∀ w : World, Calls Try.prog 27 #[.int .i64 k, .int .i64 ((m : Int) + 1)] w fun e w' => e = .returned (.bool (fitsB (cmdOf k) ((m + 1 : Nat) : Int))) ∧ Below w.heap.size w w') := ⟨fun w => refFits_in k ((m : Int) + 1) w hk (by omega)⟩
  have HNS : Aside0 ((cmdOf k).name.size ≤ 140737488351232) := ⟨by have := (ids_all k hk).2; omega⟩
  have H5 : Aside0 (((cmdOf k).name.toList == [109, 115, 101, 116]) = (k == 8)) := ⟨by rw [ByteArray.toList_eq]; exact names_mset k hk⟩
  by_cases hgo : fitsB (cmdOf k) ((m + 1 : Nat) : Int) = true ∧ (k = 8 → (m + 1) % 2 = 1)
  · have he : ofS ((cmdOf k).name :: ys) = (needOf k ((cmdOf k).name :: ys), 0) := of_name k hk _ rfl (by simp) (by rw [List.length_cons, HYL.out]; exact hgo.1) (by rw [List.length_cons, HYL.out]; exact hgo.2)
    have hok : NeedOk k ys (needOf k ((cmdOf k).name :: ys)) := need_ok k hk _ ys (by rw [HYL.out]; exact hgo.1) (by rw [HYL.out]; exact hgo.2)
    obtain ⟨c, ks, aR, aW, cs, hnd⟩ : ∃ (c : Int) (ks : List UseD) (aR aW : Bool) (cs : List ByteArray), needOf k ((cmdOf k).name :: ys) = ⟨c, ks, aR, aW, cs⟩ := ⟨_, _, _, _, _, rfl⟩
    have hck : c = (k : Int) := by have h := (need_len k ((cmdOf k).name :: ys)).1; rw [hnd] at h; exact h
    subst hck
    rw [hnd] at he hok
    obtain ⟨p, hp⟩ : ∃ p, ks.length = p := ⟨_, rfl⟩
    obtain ⟨q, hq⟩ : ∃ q, cs.length = q := ⟨_, rfl⟩
    have FI : Aside0 (∀ w : World, Calls Try.prog 27 #[.int .i64 k, .int .i64 ((m : Int) + 1)] w fun e w' => e = .returned (.bool true) ∧ Below w.heap.size w w') := ⟨fun w => by have h := FI.out w; rw [hgo.1] at h; exact h⟩
    have OA : Aside0 (∀ (A : Option Addr) (cp : Nat) (ok : Nat → Prop) (W : World), Kd.F Kd.string W ok A (m + 1) ((cmdOf k).name :: ys) → m + 1 ≤ cp → Calls Try.prog 22 #[.slice A (m + 1) cp] W fun e W' => ∃ Ak ck Ac cc, e = .returned (.tuple #[.agg #[.int .i64 k, .slice Ak p ck, .bool aR, .bool aW, .slice Ac q cc], .int .i64 0]) ∧ Aside0 (Kd.F kUse W' (fun b => W.heap.size ≤ b) Ak p ks) ∧ Aside0 (Kd.F Kd.string W' (fun b => W.heap.size ≤ b) Ac q cs) ∧ Aside0 (Below W.heap.size W W')) := ⟨fun A cp ok W h1 h2 => of_named he hp hq A cp ok W h1 h2 (by omega) HNS.out⟩
    have HOK : Aside0 (∀ u ∈ ks, u.key ∈ ys ∧ (u.r || u.w) = true ∧ (bits BinOp.and IntKind.u16 (cmdOf k).cats 1 = 1 → u.w = false)) := ⟨fun u hu => ⟨(hok.1 u hu).1, (hok.1 u hu).2.1, fun hb => (hok.1 u hu).2.2 (odd_bit k hk hb)⟩⟩
    have HSIG : Aside0 ([bits BinOp.and IntKind.u16 (cmdOf k).cats 3 != 0, (cmdOf k).name.toList == [119, 97, 116, 99, 104], (cmdOf k).name.toList == [115, 117, 98, 115, 99, 114, 105, 98, 101], (cmdOf k).name.toList == [112, 117, 98, 108, 105, 115, 104], bits BinOp.and IntKind.u16 (cmdOf k).cats 2 == 0, aR, aW, decide (0 < p), decide (0 < q)] ∈ SIGS) := ⟨by
      have h := (sig_law k hk (m + 1) (by omega) hgo.1 hgo.2).1
      obtain ⟨_, b2, b3, b4, b5⟩ := need_len k ((cmdOf k).name :: ys)
      rw [hnd, List.length_cons, HYL.out] at b2 b5
      rw [hnd] at b3 b4
      simp only at b2 b3 b4 b5
      unfold sig at h
      rw [← ByteArray.toList_eq, ← b3, ← b4, ← b2, ← b5, hp, hq] at h
      exact h⟩
    have HNW : Aside0 ((bits BinOp.and IntKind.u16 (cmdOf k).cats 2 == 0) = false → aW = false → 0 < (keysOf (·.w) ks).length) := ⟨fun h1 h2 => by
      have h := (sig_law k hk (m + 1) (by omega) hgo.1 hgo.2).2 h1
      obtain ⟨_, _, _, b4, _⟩ := need_len k ((cmdOf k).name :: ys)
      have hw := writes_len k ((cmdOf k).name :: ys)
      rw [hnd] at b4 hw
      rw [List.length_cons, HYL.out] at hw
      simp only at b4 hw
      rw [hw]
      exact h (by rw [← b4]; exact h2)⟩
    have HP6 : Aside0 (p ≤ 1000000) := ⟨by have h := Nat.le_refl p; have := (need_len k ((cmdOf k).name :: ys)).2.1; rw [hnd, List.length_cons, HYL.out] at this; simp only at this; rw [← hp, this]; exact keysLen_le k (m + 1) (by omega)⟩
    have HQ6 : Aside0 (q ≤ 1000000) := ⟨by have := (need_len k ((cmdOf k).name :: ys)).2.2.2.2; rw [hnd, List.length_cons, HYL.out] at this; simp only at this; rw [← hq, this]; exact chansLen_le k (m + 1) (by omega)⟩
    have HOC : Aside0 (∀ c ∈ cs, c ∈ ys) := ⟨hok.2⟩
    have HND := Aside0.mk hnd
    have HGO := Aside0.mk hgo
    have HP := Aside0.mk hp
    have HQ := Aside0.mk hq
    clear he hok hnd hgo hp hq
    obtain ⟨cmd, hcmd⟩ : ∃ cmd, cmd = cmdOf k := ⟨_, rfl⟩
    rw [← hcmd] at AT OA HOK HNS HSIG HNW
    have HC := Aside0.mk hcmd
    clear hcmd hk
    obtain ⟨nm, ar, ca⟩ := cmd
    go_enter Try.func9, Try.ntmps9
    go_upto_if 27 with (first
      | (go_at_call 19; go_must (refine (shown8_calls _).mono ?_); rintro e w1 ⟨rfl, hb1⟩; have HB := Aside0.mk hb1; clear hb1)
      | (go_at_call 26; go_must (refine (AT.out _).mono ?_); rintro e w2 ⟨rfl, hb2⟩; have HX := Aside0.mk (blk_new w2 (.cells #[.string nm, .int .i64 ar, .int .u16 ca] 26)); have HB := Aside0.mk (below_alloc (step2 HB.out hb2) (.cells #[.string nm, .int .i64 ar, .int .u16 ca] 26)); clear hb2; obtain ⟨x0, x1, x2, xf⟩ := cells3 HX.out))
    generalize hgX : w2.heap.size = gX at *
    generalize w2.alloc (.cells #[.string nm, .int .i64 ar, .int .u16 ca] 26) = wB at *
    clear hgX x0 x1 x2 xf
    go_cut [1] (fun v1 wx => v1 = .slice A m C ∧ wx = wB)
    case first =>
      by_cases h30 : N ≤ 30
      · have i0 : ¬ (30 : Int) < (N : Int) := by omega
        have em : m = N := by omega
        go_wp2_with fail
        go_meet
        exact ⟨by rw [em], rfl⟩
      · have i0 : (30 : Int) < (N : Int) := by omega
        have i1 : (30 : Int) ≤ (C : Int) := by omega
        have i2 : 30 ≤ C := by omega
        have em : m = 30 := by omega
        go_wp2_with fail
        go_meet
        exact ⟨by rw [em], rfl⟩
    case rest =>
      obtain ⟨rfl, rfl⟩ := hcut
      obtain ⟨x0, x1, x2, xf⟩ := cells3 HX.out
      clear hm
      go_wp2_with (first
        | ((with_reducible refine gate_dst (N := 32) rfl ?_); go_must (refine Kd.N_lit Kd.string (w0 := wc) wc.heap.size 9 rfl (N' := 32) rfl (xs := [nm]) (inner := [.string nm]) (ok := fun _ => True) (okp := fun _ => False) (by go_simp; try rfl) (texts_reps (fun c => fun W' _ => rfl) [nm]) (fun _ hk => hk.elim) trivial (Below.refl _ _) (Nat.le_refl _) (by simp) ?_); go_must (intro v3 w3 hN hb hg1 hv; obtain ⟨Ab, cb, rfl⟩ := Kd.N_slice hN; have HNb := Aside0.mk hN; have HR := Aside0.mk hb; obtain ⟨n1, hn1⟩ : ∃ n1, n1 = [nm].length := ⟨_, rfl⟩; rw [← hn1] at HNb ⊢; clear x0 x1 x2 xf hN hb hg1 hv hn1))
        | ((with_reducible refine gate_builtin (b := .append) (xs := #[.tmp 32, .tmp 33]) rfl ?_); at_builtin; go_must (refine Kd.N_append_rows Kd.string (w0 := wc) wc.heap.size rfl (.tmp 32) (.tmp 33) 35 9 (.string ⟨#[]⟩) 16 rfl Try.underlying35 info9 rfl (by decide) (by decide) (.slice Ab n1 cb) [nm] ys A m C (fun _ => True) (fun b => ok b ∧ b < W.heap.size) (by rfl) (by rfl) HNb.out (Kd.F_below (Kd.F_bound HY.out) (step2 HB.out HR.out)) (fun b hb => ⟨trivial, fun e => by have h1 := Kd.N_base HNb.out b e.symm; have h2 := HB.out.size; omega⟩) (fun _ _ => trivial) HR.out HR.out.size (by simp only [List.length_cons, List.length_nil]; omega) ?_); go_must (intro v4 w4 hN hb hg1 hv; obtain ⟨gz, cz, rfl, hgz, hgs, -⟩ := Kd.N_form hN (by simp); have HLz : Aside0 (([nm] ++ ys).length = m + 1) := ⟨by rw [List.length_append, HYL.out]; exact Nat.add_comm _ _⟩; rw [HLz.out] at hN ⊢; have hcz := (Kd.N_reads' hN).2.1; have HNz := Aside0.mk hN; have HR := Aside0.mk hb; clear hN hb hg1 hv))
        | (go_at_call 22; go_must (refine (OA.out _ _ _ _ (Kd.N_F HNz.out) hcz).mono ?_); rintro e w5 ⟨Ak, ck, Ac, cc, rfl, HK1, HC1, hb5⟩; replace HR := Aside0.mk (below_alloc (step2 HR.out hb5.out) (needB k (.slice Ak p ck) aR aW (.slice Ac q cc))); have Y1 := Aside0.mk (blk_new w5 (needB k (.slice Ak p ck) aR aW (.slice Ac q cc))); replace HK1 := Aside0.mk (Kd.F_alloc HK1.out (needB k (.slice Ak p ck) aR aW (.slice Ac q cc))); replace HC1 := Aside0.mk (Kd.F_alloc HC1.out (needB k (.slice Ak p ck) aR aW (.slice Ac q cc))); have HZ := Aside0.mk (Kd.F_alloc (Kd.F_below (Kd.N_F HNz.out) hb5.out) (needB k (.slice Ak p ck) aR aW (.slice Ac q cc))); clear hb5)
        | (go_at_call 27; go_must (refine (FI.out _).mono ?_); rintro e w6 ⟨rfl, hb6⟩; replace HR := Aside0.mk (step2 HR.out hb6); replace HX := Aside0.mk (blk_below HX.out HR.out); replace Y1 := Aside0.mk (blk_below Y1.out hb6); replace HK1 := Aside0.mk (Kd.F_below HK1.out hb6); replace HC1 := Aside0.mk (Kd.F_below HC1.out hb6); replace HZ := Aside0.mk (Kd.F_below HZ.out hb6); obtain ⟨x0, x1, x2, xf⟩ := cells3 HX.out; obtain ⟨y0, y1, y2, y3, y4, yf⟩ := cells5' Y1.out; clear hb6)
        | fail)
      have HB := Aside0.mk (step2 HB.out HR.out)
      have HTL : Aside0 (Kd.F Kd.string w6 (fun _ => True) (some ⟨gz, 1, none⟩) m ys) := ⟨by
        have h := HZ.out
        rw [show m + 1 = ([nm] ++ ys).length from HLz.out.symm] at h
        by_cases hm0 : m = 0
        · have hy0 : ys = [] := List.eq_nil_of_length_eq_zero (by rw [HYL.out]; exact hm0)
          subst hy0
          subst hm0
          exact F_none _ _ _
        · have h1 := Kd.F_cut (m := 1) (c := cz) h (by simp) (by rw [HLz.out]; exact hcz)
          rw [if_neg (by omega)] at h1
          have h2 : (([nm] ++ ys).drop 1).length = m := by rw [List.length_drop, HLz.out]; rfl
          rw [h2] at h1
          exact h1⟩
      clear HR HNz HZ HY hm30 hmc x0 x1 x2 xf y0 y1 y2 y3 y4 yf
      go_loopw [12] (fun v12 wr => ∃ j : Nat, j ≤ p ∧ v12 = .int .i64 j ∧ Aside0 (Below w6.heap.size w6 wr)) (fun v12 _ => p - (intOf v12).toNat)
      case atStart => exact ⟨0, Nat.zero_le _, rfl, ⟨Below.refl _ _⟩⟩
      case round =>
        obtain ⟨j, hjp, rfl, HBr⟩ := hrel
        have hp6 := HP6.out
        obtain ⟨x0, x1, x2, xf⟩ := cells3 (blk_below HX.out HBr.out)
        obtain ⟨y0, y1, y2, y3, y4, yf⟩ := cells5' (blk_below Y1.out HBr.out)
        by_cases hj : j < p
        · obtain ⟨ad2, hl2, rfl, d0, d1, d2⟩ := use_cell (Kd.F_below HK1.out HBr.out) j hj
          obtain ⟨u, hu⟩ : ∃ u, u = ks[j] := ⟨_, rfl⟩
          obtain ⟨hu1, hu2, hu3⟩ := HOK.out u (by rw [hu]; exact List.getElem_mem hl2)
          rw [← hu] at d0 d1 d2
          clear hu
          obtain ⟨uk, ur, uw⟩ := u
          simp only at d0 d1 d2 hu1 hu2 hu3
          have hm1 : 1 ≤ m := by
            rw [← HYL.out]
            exact List.length_pos_of_mem hu1
          have i0 : (j : Int) < (p : Int) := by omega
          have i1 : (0 : Int) ≤ (j : Int) := by omega
          have s1 : (1 : Int) ≤ (m : Int) + 1 := by omega
          have s2 : (m : Int) + 1 ≤ (cz : Int) := by omega
          have s3 : ¬ cz = 1 := by omega
          have IN : Aside0 (∀ w : World, Below w6.heap.size w6 w → Calls Try.prog 28 #[.slice (some ⟨gz, 1, none⟩) m (cz - 1), .string uk] w fun e w' => e = .returned (.bool true) ∧ w' = w) := ⟨fun w hb => in_calls _ _ _ _ ys uk w (Kd.F_below HTL.out hb) hu1⟩
          have hcs : ((bits BinOp.and IntKind.u16 ca 1 == 1) = true ∧ ur = true ∧ uw = false) ∨ ((bits BinOp.and IntKind.u16 ca 1 == 1) = false ∧ ((ur = true ∧ uw = true) ∨ (ur = true ∧ uw = false) ∨ (ur = false ∧ uw = true))) := by
            by_cases hb : bits BinOp.and IntKind.u16 ca 1 = 1
            · have h3 := hu3 hb
              subst h3
              exact .inl ⟨by simpa using hb, by simpa using hu2, rfl⟩
            · refine .inr ⟨by simpa using hb, ?_⟩
              cases ur <;> cases uw <;> simp_all
          clear hu1 hu2 hu3
          rcases hcs with ⟨b1, rfl, rfl⟩ | ⟨b1, ⟨rfl, rfl⟩ | ⟨rfl, rfl⟩ | ⟨rfl, rfl⟩⟩
          all_goals
            go_wp2_with fail
            go_quiet ((go_at_call 28; go_must (refine Calls.quiet_of_same (IN.out _ (pw_below_drewN HBr.out _)))))
            go_wp2_with fail
            go_roundw
            case rel => exact ⟨j + 1, by omega, by go_num, ⟨pw_below_drewN HBr.out _⟩⟩
            case measure => simp [intOf]; omega
        · have i0 : ¬ (j : Int) < (p : Int) := by omega
          go_wp2_with fail
          clear x0 x1 x2 xf y0 y1 y2 y3 y4 yf
          go_loopw [14] (fun v14 ws => ∃ i : Nat, i ≤ q ∧ v14 = .int .i64 i ∧ Aside0 (Below w6.heap.size w6 ws)) (fun v14 _ => q - (intOf v14).toNat)
          case atStart => exact ⟨0, Nat.zero_le _, rfl, HBr⟩
          case round =>
            obtain ⟨i, hiq, rfl, HBs⟩ := hrel
            have hq6 := HQ6.out
            obtain ⟨x0, x1, x2, xf⟩ := cells3 (blk_below HX.out HBs.out)
            obtain ⟨y0, y1, y2, y3, y4, yf⟩ := cells5' (blk_below Y1.out HBs.out)
            by_cases hi : i < q
            · obtain ⟨ad3, hl3, rfl, d0⟩ := text_at (Kd.F_below HC1.out HBs.out) i hi
              obtain ⟨t, ht⟩ : ∃ t, t = cs[i] := ⟨_, rfl⟩
              have ht1 := HOC.out t (by rw [ht]; exact List.getElem_mem hl3)
              rw [← ht] at d0
              clear ht
              have hm1 : 1 ≤ m := by
                rw [← HYL.out]
                exact List.length_pos_of_mem ht1
              have i0 : (i : Int) < (q : Int) := by omega
              have i1 : (0 : Int) ≤ (i : Int) := by omega
              have s1 : (1 : Int) ≤ (m : Int) + 1 := by omega
              have s2 : (m : Int) + 1 ≤ (cz : Int) := by omega
              have s3 : ¬ cz = 1 := by omega
              have IN : Aside0 (∀ w : World, Below w6.heap.size w6 w → Calls Try.prog 28 #[.slice (some ⟨gz, 1, none⟩) m (cz - 1), .string t] w fun e w' => e = .returned (.bool true) ∧ w' = w) := ⟨fun w hb => in_calls _ _ _ _ ys t w (Kd.F_below HTL.out hb) ht1⟩
              clear ht1
              go_wp2_with fail
              go_quiet ((go_at_call 28; go_must (refine Calls.quiet_of_same (IN.out _ (pw_below_drewN HBs.out _)))))
              go_wp2_with fail
              go_roundw
              case rel => exact ⟨i + 1, by omega, by go_num, ⟨pw_below_drewN HBs.out _⟩⟩
              case measure => simp [intOf]; omega
            · have i0 : ¬ (i : Int) < (q : Int) := by omega
              have hs := HSIG.out
              unfold SIGS at hs
              simp only [List.mem_cons, List.not_mem_nil, or_false, List.cons.injEq, and_true] at hs
              rcases hs with ⟨f3, fw, fs, fp, f2, fR, fW, fk, fc⟩ | ⟨f3, fw, fs, fp, f2, fR, fW, fk, fc⟩ | ⟨f3, fw, fs, fp, f2, fR, fW, fk, fc⟩ | ⟨f3, fw, fs, fp, f2, fR, fW, fk, fc⟩ | ⟨f3, fw, fs, fp, f2, fR, fW, fk, fc⟩ | ⟨f3, fw, fs, fp, f2, fR, fW, fk, fc⟩ | ⟨f3, fw, fs, fp, f2, fR, fW, fk, fc⟩ | ⟨f3, fw, fs, fp, f2, fR, fW, fk, fc⟩
              all_goals
                have FK := Aside0.mk fk
                have FC := Aside0.mk fc
                have F2 := Aside0.mk f2
                have FW := Aside0.mk fW
                clear fk fc
                subst fR
                subst fW
                first
                  | (have gk : 0 < p := of_decide_eq_true FK.out)
                  | (obtain rfl : p = 0 := Nat.eq_zero_of_not_pos (of_decide_eq_false FK.out))
                first
                  | (have gc : 0 < q := of_decide_eq_true FC.out)
                  | (obtain rfl : q = 0 := Nat.eq_zero_of_not_pos (of_decide_eq_false FC.out))
                go_wp2_with ((go_at_call 29; go_must (have hnw := HNW.out F2.out FW.out); go_must (refine (writes_calls _ _ _ _ _ _ _ _ _ _ _ _ (Kd.F_below HK1.out HBs.out) HP6.out).mono ?_); rintro e w9 ⟨A9, k9, rfl, _, _, hb9⟩; generalize (keysOf (·.w) ks).length = nw at *; replace HBs := Aside0.mk (step2 HBs.out hb9); clear hb9))
                go_ret
                exact ⟨rfl, step2 HB.out HBs.out⟩
  · have he : ofS ((cmdOf k).name :: ys) = (⟨0, [], false, false, []⟩, 1) := of_not k hk _ rfl (by simp) (by rw [List.length_cons, HYL.out]; exact hgo)
    cases hft : fitsB (cmdOf k) ((m + 1 : Nat) : Int)
    · have FI : Aside0 (∀ w : World, Calls Try.prog 27 #[.int .i64 k, .int .i64 ((m : Int) + 1)] w fun e w' => e = .returned (.bool false) ∧ Below w.heap.size w w') := ⟨fun w => by have h := FI.out w; rw [hft] at h; exact h⟩
      have OA : Aside0 (∀ (A : Option Addr) (cp : Nat) (ok : Nat → Prop) (W : World), Kd.F Kd.string W ok A (m + 1) ((cmdOf k).name :: ys) → m + 1 ≤ cp → Calls Try.prog 22 #[.slice A (m + 1) cp] W fun e W' => ∃ Ak ck Ac cc, e = .returned (.tuple #[.agg #[.int .i64 0, .slice Ak 0 ck, .bool false, .bool false, .slice Ac 0 cc], .int .i64 1]) ∧ Aside0 (Kd.F kUse W' (fun b => W.heap.size ≤ b) Ak 0 []) ∧ Aside0 (Kd.F Kd.string W' (fun b => W.heap.size ≤ b) Ac 0 []) ∧ Aside0 (Below W.heap.size W W')) := ⟨fun A cp ok W h1 h2 => of_named he rfl rfl A cp ok W h1 h2 (by omega) HNS.out⟩
      clear he hft hgo hk
      obtain ⟨cmd, hcmd⟩ : ∃ cmd, cmd = cmdOf k := ⟨_, rfl⟩
      rw [← hcmd] at AT OA HNS
      clear hcmd
      obtain ⟨nm, ar, ca⟩ := cmd
      go_enter Try.func9, Try.ntmps9
      go_upto_if 27 with (first
        | (go_at_call 19; go_must (refine (shown8_calls _).mono ?_); rintro e w1 ⟨rfl, hb1⟩; have HB := Aside0.mk hb1; clear hb1)
        | (go_at_call 26; go_must (refine (AT.out _).mono ?_); rintro e w2 ⟨rfl, hb2⟩; have HX := Aside0.mk (blk_new w2 (.cells #[.string nm, .int .i64 ar, .int .u16 ca] 26)); have HB := Aside0.mk (below_alloc (step2 HB.out hb2) (.cells #[.string nm, .int .i64 ar, .int .u16 ca] 26)); clear hb2; obtain ⟨x0, x1, x2, xf⟩ := cells3 HX.out))
      generalize hgX : w2.heap.size = gX at *
      generalize w2.alloc (.cells #[.string nm, .int .i64 ar, .int .u16 ca] 26) = wB at *
      clear hgX x0 x1 x2 xf
      go_cut [1] (fun v1 wx => v1 = .slice A m C ∧ wx = wB)
      case first =>
        by_cases h30 : N ≤ 30
        · have i0 : ¬ (30 : Int) < (N : Int) := by omega
          have em : m = N := by omega
          go_wp2_with fail
          go_meet
          exact ⟨by rw [em], rfl⟩
        · have i0 : (30 : Int) < (N : Int) := by omega
          have i1 : (30 : Int) ≤ (C : Int) := by omega
          have i2 : 30 ≤ C := by omega
          have em : m = 30 := by omega
          go_wp2_with fail
          go_meet
          exact ⟨by rw [em], rfl⟩
      case rest =>
        obtain ⟨rfl, rfl⟩ := hcut
        obtain ⟨x0, x1, x2, xf⟩ := cells3 HX.out
        clear hm
        go_wp2_with (first
          | ((with_reducible refine gate_dst (N := 32) rfl ?_); go_must (refine Kd.N_lit Kd.string (w0 := wc) wc.heap.size 9 rfl (N' := 32) rfl (xs := [nm]) (inner := [.string nm]) (ok := fun _ => True) (okp := fun _ => False) (by go_simp; try rfl) (texts_reps (fun c => fun W' _ => rfl) [nm]) (fun _ hk => hk.elim) trivial (Below.refl _ _) (Nat.le_refl _) (by simp) ?_); go_must (intro v3 w3 hN hb hg1 hv; obtain ⟨Ab, cb, rfl⟩ := Kd.N_slice hN; have HNb := Aside0.mk hN; have HR := Aside0.mk hb; obtain ⟨n1, hn1⟩ : ∃ n1, n1 = [nm].length := ⟨_, rfl⟩; rw [← hn1] at HNb ⊢; clear x0 x1 x2 xf hN hb hg1 hv hn1))
          | ((with_reducible refine gate_builtin (b := .append) (xs := #[.tmp 32, .tmp 33]) rfl ?_); at_builtin; go_must (refine Kd.N_append_rows Kd.string (w0 := wc) wc.heap.size rfl (.tmp 32) (.tmp 33) 35 9 (.string ⟨#[]⟩) 16 rfl Try.underlying35 info9 rfl (by decide) (by decide) (.slice Ab n1 cb) [nm] ys A m C (fun _ => True) (fun b => ok b ∧ b < W.heap.size) (by rfl) (by rfl) HNb.out (Kd.F_below (Kd.F_bound HY.out) (step2 HB.out HR.out)) (fun b hb => ⟨trivial, fun e => by have h1 := Kd.N_base HNb.out b e.symm; have h2 := HB.out.size; omega⟩) (fun _ _ => trivial) HR.out HR.out.size (by simp only [List.length_cons, List.length_nil]; omega) ?_); go_must (intro v4 w4 hN hb hg1 hv; obtain ⟨gz, cz, rfl, hgz, hgs, -⟩ := Kd.N_form hN (by simp); have HLz : Aside0 (([nm] ++ ys).length = m + 1) := ⟨by rw [List.length_append, HYL.out]; exact Nat.add_comm _ _⟩; rw [HLz.out] at hN ⊢; have hcz := (Kd.N_reads' hN).2.1; have HNz := Aside0.mk hN; have HR := Aside0.mk hb; clear hN hb hg1 hv))
          | (go_at_call 22; go_must (refine (OA.out _ _ _ _ (Kd.N_F HNz.out) hcz).mono ?_); rintro e w5 ⟨Ak, ck, Ac, cc, rfl, HK1, HC1, hb5⟩; replace HR := Aside0.mk (below_alloc (step2 HR.out hb5.out) (needB 0 (.slice Ak 0 ck) false false (.slice Ac 0 cc))); have Y1 := Aside0.mk (blk_new w5 (needB 0 (.slice Ak 0 ck) false false (.slice Ac 0 cc))); replace HK1 := Aside0.mk (Kd.F_alloc HK1.out (needB 0 (.slice Ak 0 ck) false false (.slice Ac 0 cc))); replace HC1 := Aside0.mk (Kd.F_alloc HC1.out (needB 0 (.slice Ak 0 ck) false false (.slice Ac 0 cc))); have HZ := Aside0.mk (Kd.F_alloc (Kd.F_below (Kd.N_F HNz.out) hb5.out) (needB 0 (.slice Ak 0 ck) false false (.slice Ac 0 cc))); clear hb5)
          | (go_at_call 27; go_must (refine (FI.out _).mono ?_); rintro e w6 ⟨rfl, hb6⟩; replace HR := Aside0.mk (step2 HR.out hb6); replace HX := Aside0.mk (blk_below HX.out HR.out); replace Y1 := Aside0.mk (blk_below Y1.out hb6); replace HK1 := Aside0.mk (Kd.F_below HK1.out hb6); replace HC1 := Aside0.mk (Kd.F_below HC1.out hb6); replace HZ := Aside0.mk (Kd.F_below HZ.out hb6); obtain ⟨x0, x1, x2, xf⟩ := cells3 HX.out; obtain ⟨y0, y1, y2, y3, y4, yf⟩ := cells5' Y1.out; clear hb6)
          | fail)
        go_ret
        exact ⟨rfl, step2 HB.out HR.out⟩
    · have FI : Aside0 (∀ w : World, Calls Try.prog 27 #[.int .i64 k, .int .i64 ((m : Int) + 1)] w fun e w' => e = .returned (.bool true) ∧ Below w.heap.size w w') := ⟨fun w => by have h := FI.out w; rw [hft] at h; exact h⟩
      have b1 : ((cmdOf k).name.toList == [109, 115, 101, 116]) = true := by
        have h8 : k = 8 := by by_cases h : k = 8; exact h; exact absurd ⟨hft, fun h1 => absurd h1 h⟩ hgo
        rw [H5.out, h8]; rfl
      have OA : Aside0 (∀ (A : Option Addr) (cp : Nat) (ok : Nat → Prop) (W : World), Kd.F Kd.string W ok A (m + 1) ((cmdOf k).name :: ys) → m + 1 ≤ cp → Calls Try.prog 22 #[.slice A (m + 1) cp] W fun e W' => ∃ Ak ck Ac cc, e = .returned (.tuple #[.agg #[.int .i64 0, .slice Ak 0 ck, .bool false, .bool false, .slice Ac 0 cc], .int .i64 1]) ∧ Aside0 (Kd.F kUse W' (fun b => W.heap.size ≤ b) Ak 0 []) ∧ Aside0 (Kd.F Kd.string W' (fun b => W.heap.size ≤ b) Ac 0 []) ∧ Aside0 (Below W.heap.size W W')) := ⟨fun A cp ok W h1 h2 => of_named he rfl rfl A cp ok W h1 h2 (by omega) HNS.out⟩
      clear he hft hgo hk
      obtain ⟨cmd, hcmd⟩ : ∃ cmd, cmd = cmdOf k := ⟨_, rfl⟩
      rw [← hcmd] at AT OA HNS b1
      clear hcmd
      obtain ⟨nm, ar, ca⟩ := cmd
      go_enter Try.func9, Try.ntmps9
      go_upto_if 27 with (first
        | (go_at_call 19; go_must (refine (shown8_calls _).mono ?_); rintro e w1 ⟨rfl, hb1⟩; have HB := Aside0.mk hb1; clear hb1)
        | (go_at_call 26; go_must (refine (AT.out _).mono ?_); rintro e w2 ⟨rfl, hb2⟩; have HX := Aside0.mk (blk_new w2 (.cells #[.string nm, .int .i64 ar, .int .u16 ca] 26)); have HB := Aside0.mk (below_alloc (step2 HB.out hb2) (.cells #[.string nm, .int .i64 ar, .int .u16 ca] 26)); clear hb2; obtain ⟨x0, x1, x2, xf⟩ := cells3 HX.out))
      generalize hgX : w2.heap.size = gX at *
      generalize w2.alloc (.cells #[.string nm, .int .i64 ar, .int .u16 ca] 26) = wB at *
      clear hgX x0 x1 x2 xf
      go_cut [1] (fun v1 wx => v1 = .slice A m C ∧ wx = wB)
      case first =>
        by_cases h30 : N ≤ 30
        · have i0 : ¬ (30 : Int) < (N : Int) := by omega
          have em : m = N := by omega
          go_wp2_with fail
          go_meet
          exact ⟨by rw [em], rfl⟩
        · have i0 : (30 : Int) < (N : Int) := by omega
          have i1 : (30 : Int) ≤ (C : Int) := by omega
          have i2 : 30 ≤ C := by omega
          have em : m = 30 := by omega
          go_wp2_with fail
          go_meet
          exact ⟨by rw [em], rfl⟩
      case rest =>
        obtain ⟨rfl, rfl⟩ := hcut
        obtain ⟨x0, x1, x2, xf⟩ := cells3 HX.out
        clear hm
        go_wp2_with (first
          | ((with_reducible refine gate_dst (N := 32) rfl ?_); go_must (refine Kd.N_lit Kd.string (w0 := wc) wc.heap.size 9 rfl (N' := 32) rfl (xs := [nm]) (inner := [.string nm]) (ok := fun _ => True) (okp := fun _ => False) (by go_simp; try rfl) (texts_reps (fun c => fun W' _ => rfl) [nm]) (fun _ hk => hk.elim) trivial (Below.refl _ _) (Nat.le_refl _) (by simp) ?_); go_must (intro v3 w3 hN hb hg1 hv; obtain ⟨Ab, cb, rfl⟩ := Kd.N_slice hN; have HNb := Aside0.mk hN; have HR := Aside0.mk hb; obtain ⟨n1, hn1⟩ : ∃ n1, n1 = [nm].length := ⟨_, rfl⟩; rw [← hn1] at HNb ⊢; clear x0 x1 x2 xf hN hb hg1 hv hn1))
          | ((with_reducible refine gate_builtin (b := .append) (xs := #[.tmp 32, .tmp 33]) rfl ?_); at_builtin; go_must (refine Kd.N_append_rows Kd.string (w0 := wc) wc.heap.size rfl (.tmp 32) (.tmp 33) 35 9 (.string ⟨#[]⟩) 16 rfl Try.underlying35 info9 rfl (by decide) (by decide) (.slice Ab n1 cb) [nm] ys A m C (fun _ => True) (fun b => ok b ∧ b < W.heap.size) (by rfl) (by rfl) HNb.out (Kd.F_below (Kd.F_bound HY.out) (step2 HB.out HR.out)) (fun b hb => ⟨trivial, fun e => by have h1 := Kd.N_base HNb.out b e.symm; have h2 := HB.out.size; omega⟩) (fun _ _ => trivial) HR.out HR.out.size (by simp only [List.length_cons, List.length_nil]; omega) ?_); go_must (intro v4 w4 hN hb hg1 hv; obtain ⟨gz, cz, rfl, hgz, hgs, -⟩ := Kd.N_form hN (by simp); have HLz : Aside0 (([nm] ++ ys).length = m + 1) := ⟨by rw [List.length_append, HYL.out]; exact Nat.add_comm _ _⟩; rw [HLz.out] at hN ⊢; have hcz := (Kd.N_reads' hN).2.1; have HNz := Aside0.mk hN; have HR := Aside0.mk hb; clear hN hb hg1 hv))
          | (go_at_call 22; go_must (refine (OA.out _ _ _ _ (Kd.N_F HNz.out) hcz).mono ?_); rintro e w5 ⟨Ak, ck, Ac, cc, rfl, HK1, HC1, hb5⟩; replace HR := Aside0.mk (below_alloc (step2 HR.out hb5.out) (needB 0 (.slice Ak 0 ck) false false (.slice Ac 0 cc))); have Y1 := Aside0.mk (blk_new w5 (needB 0 (.slice Ak 0 ck) false false (.slice Ac 0 cc))); replace HK1 := Aside0.mk (Kd.F_alloc HK1.out (needB 0 (.slice Ak 0 ck) false false (.slice Ac 0 cc))); replace HC1 := Aside0.mk (Kd.F_alloc HC1.out (needB 0 (.slice Ak 0 ck) false false (.slice Ac 0 cc))); have HZ := Aside0.mk (Kd.F_alloc (Kd.F_below (Kd.N_F HNz.out) hb5.out) (needB 0 (.slice Ak 0 ck) false false (.slice Ac 0 cc))); clear hb5)
          | (go_at_call 27; go_must (refine (FI.out _).mono ?_); rintro e w6 ⟨rfl, hb6⟩; replace HR := Aside0.mk (step2 HR.out hb6); replace HX := Aside0.mk (blk_below HX.out HR.out); replace Y1 := Aside0.mk (blk_below Y1.out hb6); replace HK1 := Aside0.mk (Kd.F_below HK1.out hb6); replace HC1 := Aside0.mk (Kd.F_below HC1.out hb6); replace HZ := Aside0.mk (Kd.F_below HZ.out hb6); obtain ⟨x0, x1, x2, xf⟩ := cells3 HX.out; obtain ⟨y0, y1, y2, y3, y4, yf⟩ := cells5' Y1.out; clear hb6)
          | fail)
        go_ret
        exact ⟨rfl, step2 HB.out HR.out⟩
end Go.Proofs.Ytflnpgfddedahaa.U
