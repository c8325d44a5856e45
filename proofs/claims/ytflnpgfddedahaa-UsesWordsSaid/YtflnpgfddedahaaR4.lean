/- UsesNone, walked. -/
import Derived.Test.YtflnpgfddedahaaR3
import Derived.Test.YtflnpgfddedahaaV10
namespace Go.Proofs.Ytflnpgfddedahaa.U
open Go.RowKit Go.Great Go.Proofs.YtflnpgfddedahaaW.PrintWords Go.Proofs.YtflnpgfddedahaaW.PrintLast Go.Proofs.YtflnpgfddedahaaW.PrintMore
attribute [local go_sem] max2_int min2_int max_two min_two max_three min_three
set_option linter.unusedVariables false
set_option linter.unusedSimpArgs false
/-- How many keys and channels a command needs, of so many words. -/
def keysLen (k n : Nat) : Nat := match kindAt k with
  | some (.one _ _) => 1
  | some (.each s _ _) => if s = 2 then (n + 2 - 2) / 2 else (n + 1 - 2) / 1
  | some (.fn 49) => 1
  | some (.fn 52) => 2
  | some (.fn 53) => 2
  | _ => 0
def chansLen (k n : Nat) : Nat := match kindAt k with
  | some (.fn 57) => n - 1
  | some (.fn 59) => 1
  | _ => 0
def allR (k : Nat) : Bool := match kindAt k with
  | some (.fn 54) => true
  | some (.fn 55) => true
  | _ => false
def allW (k : Nat) : Bool := match kindAt k with
  | some (.fn 56) => true
  | _ => false
theorem each_len (s : Nat) (r w : Bool) (xs : List ByteArray) (m : Nat) : (eachUpto s r w xs m).length = m := by unfold eachUpto; simp
theorem need_len (k : Nat) (xs : List ByteArray) : (needOf k xs).cmd = k ∧ (needOf k xs).keys.length = keysLen k xs.length ∧ (needOf k xs).aR = allR k ∧ (needOf k xs).aW = allW k ∧ (needOf k xs).chans.length = chansLen k xs.length := by
  unfold needOf keysLen allR allW chansLen
  generalize kindAt k = o
  cases o with
  | none => exact ⟨rfl, rfl, rfl, rfl, rfl⟩
  | some t =>
    cases t with
    | one r w => exact ⟨rfl, rfl, rfl, rfl, rfl⟩
    | each s r w =>
      by_cases h : s = 2
      · subst h
        exact ⟨rfl, each_len _ _ _ _ _, rfl, rfl, rfl⟩
      · simp [if_neg h, each_len]
    | fn f =>
      by_cases h1 : f = 49
      · subst h1; exact ⟨rfl, rfl, rfl, rfl, rfl⟩
      by_cases h2 : f = 52
      · subst h2; exact ⟨rfl, rfl, rfl, rfl, rfl⟩
      by_cases h3 : f = 53
      · subst h3; exact ⟨rfl, rfl, rfl, rfl, rfl⟩
      by_cases h4 : f = 54
      · subst h4; exact ⟨rfl, rfl, rfl, rfl, rfl⟩
      by_cases h5 : f = 55
      · subst h5; exact ⟨rfl, rfl, rfl, rfl, rfl⟩
      by_cases h6 : f = 56
      · subst h6; exact ⟨rfl, rfl, rfl, rfl, rfl⟩
      by_cases h7 : f = 57
      · subst h7; exact ⟨rfl, rfl, rfl, rfl, List.length_drop⟩
      by_cases h8 : f = 59
      · subst h8; exact ⟨rfl, rfl, rfl, rfl, rfl⟩
      simp [h1, h2, h3, h4, h5, h6, h7, h8]
theorem ids_all : ∀ k : Nat, k < 56 → idOf (cmdOf k).name = some k ∧ (cmdOf k).name.size ≤ 20 := by decide +kernel
theorem of_name (k : Nat) (hk : k < 56) (xs : List ByteArray) (h0 : word xs 0 = (cmdOf k).name) (hl : 1 ≤ xs.length) (hf : fitsB (cmdOf k) xs.length = true) (h8 : k = 8 → xs.length % 2 = 1) : ofS xs = (needOf k xs, 0) := by
  unfold ofS
  rw [if_neg (by omega), h0, (ids_all k hk).1]
  show (if _ then _ else _) = _
  rw [if_pos ⟨hf, fun h => by have := h8 h.1; omega⟩]
def noneB (k n : Nat) : Bool := !(fitsB (cmdOf k) (n : Int)) || (k == 8 && !(n % 2 == 1)) || ((decide (0 < keysLen k n) == ((decide (k < 43) && !(k == 40 || k == 41 || k == 42)) || k == 50)) && (allR k == (k == 40 || k == 41)) && (allW k == (k == 42)) && (decide (0 < chansLen k n) == (k == 52 || k == 54)))
theorem none_all : ∀ k : Nat, k < 56 → ∀ n : Nat, n < 13 → noneB k n = true := by decide +kernel
theorem none_law (k : Nat) (hk : k < 56) (n : Nat) (hn : n < 13) (hf : fitsB (cmdOf k) (n : Int) = true) (h8 : k = 8 → n % 2 = 1) : (decide (0 < keysLen k n) = ((decide (k < 43) && !(k == 40 || k == 41 || k == 42)) || k == 50)) ∧ allR k = (k == 40 || k == 41) ∧ allW k = (k == 42) ∧ decide (0 < chansLen k n) = (k == 52 || k == 54) := by
  have h := none_all k hk n hn
  unfold noneB at h
  simp only [Bool.or_eq_true, Bool.and_eq_true, beq_iff_eq, Bool.not_eq_true'] at h
  rcases h with (h | ⟨h1, h2⟩) | ⟨⟨⟨h1, h2⟩, h3⟩, h4⟩
  · rw [hf] at h; cases h
  · have := h8 h1; simp [this] at h2
  · exact ⟨h1, h2, h3, h4⟩
theorem none_of (k : Nat) (hk : k < 56) (xs : List ByteArray) (n : Nat) (hn : xs.length = n) (h0 : word xs 0 = (cmdOf k).name) (hl : n ≤ 12) (hf : fitsB (cmdOf k) (n : Int) = true) (h8 : k = 8 → n % 2 = 1) :
    ∃ ks cs, ofS xs = (⟨k, ks, k == 40 || k == 41, k == 42, cs⟩, 0) ∧ decide (0 < ks.length) = ((decide (k < 43) && !(k == 40 || k == 41 || k == 42)) || k == 50) ∧ decide (0 < cs.length) = (k == 52 || k == 54) := by
  subst hn
  obtain ⟨a1, a2, a3, a4⟩ := none_law k hk xs.length (by omega) hf h8
  obtain ⟨b1, b2, b3, b4, b5⟩ := need_len k xs
  have h1 : 1 ≤ xs.length := by
    have hz := (arity_nz k hk).1
    have hb := arity_bd k hk
    unfold fitsB at hf
    simp at hf
    omega
  refine ⟨(needOf k xs).keys, (needOf k xs).chans, ?_, by rw [b2]; exact a1, by rw [b5]; exact a4⟩
  rw [of_name k hk xs h0 h1 hf h8, ← a2, ← a3, ← b3, ← b4, ← b1]
set_option maxHeartbeats 16000000 in
set_option maxRecDepth 100000 in
theorem none8_calls (d : Nat) (hd : d < 256) (A : Option Addr) (N C : Nat) (xs : List ByteArray) (ok : Nat → Prop) (W : World) (hF : Kd.F Kd.string W ok A N xs) (hlc : N ≤ C) :
    Calls Try.prog 8 #[.int .u8 d, .slice A N C] W fun e W' => e = .returned (.bool true) ∧ Below W.heap.size W W' := by
  have hxl := Kd.F_len hF
  obtain ⟨m, hm⟩ : ∃ m : Nat, (if (12 : Int) < (N : Int) then (12 : Int) else (N : Int)) = (m : Int) := ⟨min N 12, by split <;> omega⟩
  have hm1 : m ≤ 12 := by split at hm <;> omega
  have hm2 : m ≤ N := by split at hm <;> omega
  have hm3 : m ≤ C := by omega
  have hm0 : (0 : Int) ≤ (m : Int) := by omega
  have hm4 : (m : Int) ≤ (C : Int) := by omega
  have hm5 : (m : Int) ≤ (N : Int) := by omega
  obtain ⟨ys, hys⟩ : ∃ ys, ys = xs.take m := ⟨_, rfl⟩
  have HYL : Aside0 (ys.length = m) := ⟨by rw [hys, List.length_take]; omega⟩
  have HY : Aside0 (Kd.F Kd.string W ok A m ys) := ⟨by
    subst hxl
    have h := Kd.F_take hF (m := m) hm2
    rw [← hys] at h
    rw [HYL.out] at h
    exact h⟩
  clear hF hys hxl
  obtain ⟨k, hkd⟩ : ∃ k : Nat, (d : Int) % 56 = (k : Int) := ⟨d % 56, by omega⟩
  have hk : k < 56 := by omega
  have FT : Aside0 (∀ w : World, Below W.heap.size W w → Calls Try.prog 25 #[.int .i64 k, .slice A m C] w fun e W' => FitSaid (cmdOf k) k w e W') := ⟨fun w hb => fit_calls k hk A m C ys ok w (Kd.F_below HY.out hb) hm1 hm3⟩
  have HSZ : Aside0 ((cmdOf k).name.size ≤ 140737488351232) := ⟨by have := (ids_all k hk).2; omega⟩
  have NO := Aside0.mk (none_of k hk)
  have HK := Aside0.mk hk
  clear hk
  rcases (show k = 40 ∨ k = 41 ∨ k = 42 ∨ k = 50 ∨ k = 52 ∨ k = 54 ∨ (k < 43 ∧ k ≠ 40 ∧ k ≠ 41 ∧ k ≠ 42) ∨ (43 ≤ k ∧ k ≠ 50 ∧ k ≠ 52 ∧ k ≠ 54) by omega) with h | h | h | h | h | h | ⟨h, h0, h1, h2⟩ | ⟨h, h0, h1, h2⟩
  · subst h
    have OA : Aside0 (∀ (A : Option Addr) (n cp : Nat) (xs : List ByteArray) (ok : Nat → Prop) (W : World), Kd.F Kd.string W ok A n xs → n ≤ cp → word xs 0 = (cmdOf 40).name → n ≤ 12 → fitsB (cmdOf 40) (n : Int) = true → (40 = 8 → n % 2 = 1) → Calls Try.prog 22 #[.slice A n cp] W fun e W' => ∃ (p q : Nat) (Ak : Option Addr) (ck : Nat) (Ac : Option Addr) (cc : Nat), p = 0 ∧ q = 0 ∧ e = .returned (.tuple #[.agg #[.int .i64 (40 : Nat), .slice Ak p ck, .bool true, .bool false, .slice Ac q cc], .int .i64 0]) ∧ Aside0 (Below W.heap.size W W')) := ⟨fun A n cp xs ok W h1 h2 h3 h4 h5 h6 => by
      obtain ⟨ks, cs, g1, g2, g3⟩ := NO.out xs n (Kd.F_len h1) h3 h4 h5 h6
      have g1 := g1.trans (show _ = ((⟨((40 : Nat) : Int), ks, true, false, cs⟩ : NeedD), (0 : Int)) from by first | rfl | simp [Nat.reduceBEq])
      have g2 : decide (0 < ks.length) = false := g2.trans (by first | rfl | simp [Nat.reduceBEq])
      have g3 : decide (0 < cs.length) = false := g3.trans (by first | rfl | simp [Nat.reduceBEq])
      refine (of_named g1 rfl rfl A cp ok W h1 h2 (by omega) (by rw [h3]; exact HSZ.out)).mono fun e W' hh => ?_
      obtain ⟨Ak, ck, Ac, cc, e1, _, _, e4⟩ := hh
      exact ⟨_, _, Ak, ck, Ac, cc, by first | (have := of_decide_eq_true g2; omega) | (have := of_decide_eq_false g2; omega), by first | (have := of_decide_eq_true g3; omega) | (have := of_decide_eq_false g3; omega), e1, e4⟩⟩
    clear NO HSZ HK
    go_enter Try.func8, Try.ntmps8
    go_wp2_with (first
      | (go_at_call 19; go_must (refine (shown8_calls _).mono ?_); rintro e w1 ⟨rfl, hb1⟩; have HB := Aside0.mk hb1; clear hb1)
      | (go_at_call 25; go_must (refine (FT.out _ HB.out).mono ?_); rintro e w2 h; go_must (unfold FitSaid at h; obtain ⟨A2, m2, c2, zs, rfl, hmc, HZ, hw0, hfit, hpar, hm12, HB2⟩ := h; have HB := Aside0.mk (step2 HB.out HB2.out); have OZ := Aside0.mk (OA.out A2 m2 c2 zs _ w2 HZ.out hmc hw0 hm12 hfit hpar); clear hw0 hfit hpar hm12 HB2 HZ OA FT))
      | (go_at_call 22; go_must (refine OZ.out.mono ?_); rintro e w3 ⟨p, q, Ak, ck, Ac, cc, rfl, rfl, rfl, hb3⟩; have HB := Aside0.mk (below_alloc (step2 HB.out hb3.out) (needB (40 : Nat) (.slice Ak 0 ck) true false (.slice Ac 0 cc))); have X1 := Aside0.mk (blk_new w3 (needB (40 : Nat) (.slice Ak 0 ck) true false (.slice Ac 0 cc))); clear hb3; obtain ⟨x0, x1, x2, x3, x4, xf⟩ := cells5' X1.out))
    go_ret
    exact ⟨rfl, HB.out⟩
  · subst h
    have OA : Aside0 (∀ (A : Option Addr) (n cp : Nat) (xs : List ByteArray) (ok : Nat → Prop) (W : World), Kd.F Kd.string W ok A n xs → n ≤ cp → word xs 0 = (cmdOf 41).name → n ≤ 12 → fitsB (cmdOf 41) (n : Int) = true → (41 = 8 → n % 2 = 1) → Calls Try.prog 22 #[.slice A n cp] W fun e W' => ∃ (p q : Nat) (Ak : Option Addr) (ck : Nat) (Ac : Option Addr) (cc : Nat), p = 0 ∧ q = 0 ∧ e = .returned (.tuple #[.agg #[.int .i64 (41 : Nat), .slice Ak p ck, .bool true, .bool false, .slice Ac q cc], .int .i64 0]) ∧ Aside0 (Below W.heap.size W W')) := ⟨fun A n cp xs ok W h1 h2 h3 h4 h5 h6 => by
      obtain ⟨ks, cs, g1, g2, g3⟩ := NO.out xs n (Kd.F_len h1) h3 h4 h5 h6
      have g1 := g1.trans (show _ = ((⟨((41 : Nat) : Int), ks, true, false, cs⟩ : NeedD), (0 : Int)) from by first | rfl | simp [Nat.reduceBEq])
      have g2 : decide (0 < ks.length) = false := g2.trans (by first | rfl | simp [Nat.reduceBEq])
      have g3 : decide (0 < cs.length) = false := g3.trans (by first | rfl | simp [Nat.reduceBEq])
      refine (of_named g1 rfl rfl A cp ok W h1 h2 (by omega) (by rw [h3]; exact HSZ.out)).mono fun e W' hh => ?_
      obtain ⟨Ak, ck, Ac, cc, e1, _, _, e4⟩ := hh
      exact ⟨_, _, Ak, ck, Ac, cc, by first | (have := of_decide_eq_true g2; omega) | (have := of_decide_eq_false g2; omega), by first | (have := of_decide_eq_true g3; omega) | (have := of_decide_eq_false g3; omega), e1, e4⟩⟩
    clear NO HSZ HK
    go_enter Try.func8, Try.ntmps8
    go_wp2_with (first
      | (go_at_call 19; go_must (refine (shown8_calls _).mono ?_); rintro e w1 ⟨rfl, hb1⟩; have HB := Aside0.mk hb1; clear hb1)
      | (go_at_call 25; go_must (refine (FT.out _ HB.out).mono ?_); rintro e w2 h; go_must (unfold FitSaid at h; obtain ⟨A2, m2, c2, zs, rfl, hmc, HZ, hw0, hfit, hpar, hm12, HB2⟩ := h; have HB := Aside0.mk (step2 HB.out HB2.out); have OZ := Aside0.mk (OA.out A2 m2 c2 zs _ w2 HZ.out hmc hw0 hm12 hfit hpar); clear hw0 hfit hpar hm12 HB2 HZ OA FT))
      | (go_at_call 22; go_must (refine OZ.out.mono ?_); rintro e w3 ⟨p, q, Ak, ck, Ac, cc, rfl, rfl, rfl, hb3⟩; have HB := Aside0.mk (below_alloc (step2 HB.out hb3.out) (needB (41 : Nat) (.slice Ak 0 ck) true false (.slice Ac 0 cc))); have X1 := Aside0.mk (blk_new w3 (needB (41 : Nat) (.slice Ak 0 ck) true false (.slice Ac 0 cc))); clear hb3; obtain ⟨x0, x1, x2, x3, x4, xf⟩ := cells5' X1.out))
    go_ret
    exact ⟨rfl, HB.out⟩
  · subst h
    have OA : Aside0 (∀ (A : Option Addr) (n cp : Nat) (xs : List ByteArray) (ok : Nat → Prop) (W : World), Kd.F Kd.string W ok A n xs → n ≤ cp → word xs 0 = (cmdOf 42).name → n ≤ 12 → fitsB (cmdOf 42) (n : Int) = true → (42 = 8 → n % 2 = 1) → Calls Try.prog 22 #[.slice A n cp] W fun e W' => ∃ (p q : Nat) (Ak : Option Addr) (ck : Nat) (Ac : Option Addr) (cc : Nat), p = 0 ∧ q = 0 ∧ e = .returned (.tuple #[.agg #[.int .i64 (42 : Nat), .slice Ak p ck, .bool false, .bool true, .slice Ac q cc], .int .i64 0]) ∧ Aside0 (Below W.heap.size W W')) := ⟨fun A n cp xs ok W h1 h2 h3 h4 h5 h6 => by
      obtain ⟨ks, cs, g1, g2, g3⟩ := NO.out xs n (Kd.F_len h1) h3 h4 h5 h6
      have g1 := g1.trans (show _ = ((⟨((42 : Nat) : Int), ks, false, true, cs⟩ : NeedD), (0 : Int)) from by first | rfl | simp [Nat.reduceBEq])
      have g2 : decide (0 < ks.length) = false := g2.trans (by first | rfl | simp [Nat.reduceBEq])
      have g3 : decide (0 < cs.length) = false := g3.trans (by first | rfl | simp [Nat.reduceBEq])
      refine (of_named g1 rfl rfl A cp ok W h1 h2 (by omega) (by rw [h3]; exact HSZ.out)).mono fun e W' hh => ?_
      obtain ⟨Ak, ck, Ac, cc, e1, _, _, e4⟩ := hh
      exact ⟨_, _, Ak, ck, Ac, cc, by first | (have := of_decide_eq_true g2; omega) | (have := of_decide_eq_false g2; omega), by first | (have := of_decide_eq_true g3; omega) | (have := of_decide_eq_false g3; omega), e1, e4⟩⟩
    clear NO HSZ HK
    go_enter Try.func8, Try.ntmps8
    go_wp2_with (first
      | (go_at_call 19; go_must (refine (shown8_calls _).mono ?_); rintro e w1 ⟨rfl, hb1⟩; have HB := Aside0.mk hb1; clear hb1)
      | (go_at_call 25; go_must (refine (FT.out _ HB.out).mono ?_); rintro e w2 h; go_must (unfold FitSaid at h; obtain ⟨A2, m2, c2, zs, rfl, hmc, HZ, hw0, hfit, hpar, hm12, HB2⟩ := h; have HB := Aside0.mk (step2 HB.out HB2.out); have OZ := Aside0.mk (OA.out A2 m2 c2 zs _ w2 HZ.out hmc hw0 hm12 hfit hpar); clear hw0 hfit hpar hm12 HB2 HZ OA FT))
      | (go_at_call 22; go_must (refine OZ.out.mono ?_); rintro e w3 ⟨p, q, Ak, ck, Ac, cc, rfl, rfl, rfl, hb3⟩; have HB := Aside0.mk (below_alloc (step2 HB.out hb3.out) (needB (42 : Nat) (.slice Ak 0 ck) false true (.slice Ac 0 cc))); have X1 := Aside0.mk (blk_new w3 (needB (42 : Nat) (.slice Ak 0 ck) false true (.slice Ac 0 cc))); clear hb3; obtain ⟨x0, x1, x2, x3, x4, xf⟩ := cells5' X1.out))
    go_ret
    exact ⟨rfl, HB.out⟩
  · subst h
    have OA : Aside0 (∀ (A : Option Addr) (n cp : Nat) (xs : List ByteArray) (ok : Nat → Prop) (W : World), Kd.F Kd.string W ok A n xs → n ≤ cp → word xs 0 = (cmdOf 50).name → n ≤ 12 → fitsB (cmdOf 50) (n : Int) = true → (50 = 8 → n % 2 = 1) → Calls Try.prog 22 #[.slice A n cp] W fun e W' => ∃ (p q : Nat) (Ak : Option Addr) (ck : Nat) (Ac : Option Addr) (cc : Nat), 0 < p ∧ q = 0 ∧ e = .returned (.tuple #[.agg #[.int .i64 (50 : Nat), .slice Ak p ck, .bool false, .bool false, .slice Ac q cc], .int .i64 0]) ∧ Aside0 (Below W.heap.size W W')) := ⟨fun A n cp xs ok W h1 h2 h3 h4 h5 h6 => by
      obtain ⟨ks, cs, g1, g2, g3⟩ := NO.out xs n (Kd.F_len h1) h3 h4 h5 h6
      have g1 := g1.trans (show _ = ((⟨((50 : Nat) : Int), ks, false, false, cs⟩ : NeedD), (0 : Int)) from by first | rfl | simp [Nat.reduceBEq])
      have g2 : decide (0 < ks.length) = true := g2.trans (by first | rfl | simp [Nat.reduceBEq])
      have g3 : decide (0 < cs.length) = false := g3.trans (by first | rfl | simp [Nat.reduceBEq])
      refine (of_named g1 rfl rfl A cp ok W h1 h2 (by omega) (by rw [h3]; exact HSZ.out)).mono fun e W' hh => ?_
      obtain ⟨Ak, ck, Ac, cc, e1, _, _, e4⟩ := hh
      exact ⟨_, _, Ak, ck, Ac, cc, by first | (have := of_decide_eq_true g2; omega) | (have := of_decide_eq_false g2; omega), by first | (have := of_decide_eq_true g3; omega) | (have := of_decide_eq_false g3; omega), e1, e4⟩⟩
    clear NO HSZ HK
    go_enter Try.func8, Try.ntmps8
    go_wp2_with (first
      | (go_at_call 19; go_must (refine (shown8_calls _).mono ?_); rintro e w1 ⟨rfl, hb1⟩; have HB := Aside0.mk hb1; clear hb1)
      | (go_at_call 25; go_must (refine (FT.out _ HB.out).mono ?_); rintro e w2 h; go_must (unfold FitSaid at h; obtain ⟨A2, m2, c2, zs, rfl, hmc, HZ, hw0, hfit, hpar, hm12, HB2⟩ := h; have HB := Aside0.mk (step2 HB.out HB2.out); have OZ := Aside0.mk (OA.out A2 m2 c2 zs _ w2 HZ.out hmc hw0 hm12 hfit hpar); clear hw0 hfit hpar hm12 HB2 HZ OA FT))
      | (go_at_call 22; go_must (refine OZ.out.mono ?_); rintro e w3 ⟨p, q, Ak, ck, Ac, cc, hp, rfl, rfl, hb3⟩; have HB := Aside0.mk (below_alloc (step2 HB.out hb3.out) (needB (50 : Nat) (.slice Ak p ck) false false (.slice Ac 0 cc))); have X1 := Aside0.mk (blk_new w3 (needB (50 : Nat) (.slice Ak p ck) false false (.slice Ac 0 cc))); clear hb3; obtain ⟨x0, x1, x2, x3, x4, xf⟩ := cells5' X1.out))
    go_ret
    exact ⟨rfl, HB.out⟩
  · subst h
    have OA : Aside0 (∀ (A : Option Addr) (n cp : Nat) (xs : List ByteArray) (ok : Nat → Prop) (W : World), Kd.F Kd.string W ok A n xs → n ≤ cp → word xs 0 = (cmdOf 52).name → n ≤ 12 → fitsB (cmdOf 52) (n : Int) = true → (52 = 8 → n % 2 = 1) → Calls Try.prog 22 #[.slice A n cp] W fun e W' => ∃ (p q : Nat) (Ak : Option Addr) (ck : Nat) (Ac : Option Addr) (cc : Nat), p = 0 ∧ 0 < q ∧ e = .returned (.tuple #[.agg #[.int .i64 (52 : Nat), .slice Ak p ck, .bool false, .bool false, .slice Ac q cc], .int .i64 0]) ∧ Aside0 (Below W.heap.size W W')) := ⟨fun A n cp xs ok W h1 h2 h3 h4 h5 h6 => by
      obtain ⟨ks, cs, g1, g2, g3⟩ := NO.out xs n (Kd.F_len h1) h3 h4 h5 h6
      have g1 := g1.trans (show _ = ((⟨((52 : Nat) : Int), ks, false, false, cs⟩ : NeedD), (0 : Int)) from by first | rfl | simp [Nat.reduceBEq])
      have g2 : decide (0 < ks.length) = false := g2.trans (by first | rfl | simp [Nat.reduceBEq])
      have g3 : decide (0 < cs.length) = true := g3.trans (by first | rfl | simp [Nat.reduceBEq])
      refine (of_named g1 rfl rfl A cp ok W h1 h2 (by omega) (by rw [h3]; exact HSZ.out)).mono fun e W' hh => ?_
      obtain ⟨Ak, ck, Ac, cc, e1, _, _, e4⟩ := hh
      exact ⟨_, _, Ak, ck, Ac, cc, by first | (have := of_decide_eq_true g2; omega) | (have := of_decide_eq_false g2; omega), by first | (have := of_decide_eq_true g3; omega) | (have := of_decide_eq_false g3; omega), e1, e4⟩⟩
    clear NO HSZ HK
    go_enter Try.func8, Try.ntmps8
    go_wp2_with (first
      | (go_at_call 19; go_must (refine (shown8_calls _).mono ?_); rintro e w1 ⟨rfl, hb1⟩; have HB := Aside0.mk hb1; clear hb1)
      | (go_at_call 25; go_must (refine (FT.out _ HB.out).mono ?_); rintro e w2 h; go_must (unfold FitSaid at h; obtain ⟨A2, m2, c2, zs, rfl, hmc, HZ, hw0, hfit, hpar, hm12, HB2⟩ := h; have HB := Aside0.mk (step2 HB.out HB2.out); have OZ := Aside0.mk (OA.out A2 m2 c2 zs _ w2 HZ.out hmc hw0 hm12 hfit hpar); clear hw0 hfit hpar hm12 HB2 HZ OA FT))
      | (go_at_call 22; go_must (refine OZ.out.mono ?_); rintro e w3 ⟨p, q, Ak, ck, Ac, cc, rfl, hq, rfl, hb3⟩; have HB := Aside0.mk (below_alloc (step2 HB.out hb3.out) (needB (52 : Nat) (.slice Ak 0 ck) false false (.slice Ac q cc))); have X1 := Aside0.mk (blk_new w3 (needB (52 : Nat) (.slice Ak 0 ck) false false (.slice Ac q cc))); clear hb3; obtain ⟨x0, x1, x2, x3, x4, xf⟩ := cells5' X1.out))
    go_ret
    exact ⟨rfl, HB.out⟩
  · subst h
    have OA : Aside0 (∀ (A : Option Addr) (n cp : Nat) (xs : List ByteArray) (ok : Nat → Prop) (W : World), Kd.F Kd.string W ok A n xs → n ≤ cp → word xs 0 = (cmdOf 54).name → n ≤ 12 → fitsB (cmdOf 54) (n : Int) = true → (54 = 8 → n % 2 = 1) → Calls Try.prog 22 #[.slice A n cp] W fun e W' => ∃ (p q : Nat) (Ak : Option Addr) (ck : Nat) (Ac : Option Addr) (cc : Nat), p = 0 ∧ 0 < q ∧ e = .returned (.tuple #[.agg #[.int .i64 (54 : Nat), .slice Ak p ck, .bool false, .bool false, .slice Ac q cc], .int .i64 0]) ∧ Aside0 (Below W.heap.size W W')) := ⟨fun A n cp xs ok W h1 h2 h3 h4 h5 h6 => by
      obtain ⟨ks, cs, g1, g2, g3⟩ := NO.out xs n (Kd.F_len h1) h3 h4 h5 h6
      have g1 := g1.trans (show _ = ((⟨((54 : Nat) : Int), ks, false, false, cs⟩ : NeedD), (0 : Int)) from by first | rfl | simp [Nat.reduceBEq])
      have g2 : decide (0 < ks.length) = false := g2.trans (by first | rfl | simp [Nat.reduceBEq])
      have g3 : decide (0 < cs.length) = true := g3.trans (by first | rfl | simp [Nat.reduceBEq])
      refine (of_named g1 rfl rfl A cp ok W h1 h2 (by omega) (by rw [h3]; exact HSZ.out)).mono fun e W' hh => ?_
      obtain ⟨Ak, ck, Ac, cc, e1, _, _, e4⟩ := hh
      exact ⟨_, _, Ak, ck, Ac, cc, by first | (have := of_decide_eq_true g2; omega) | (have := of_decide_eq_false g2; omega), by first | (have := of_decide_eq_true g3; omega) | (have := of_decide_eq_false g3; omega), e1, e4⟩⟩
    clear NO HSZ HK
    go_enter Try.func8, Try.ntmps8
    go_wp2_with (first
      | (go_at_call 19; go_must (refine (shown8_calls _).mono ?_); rintro e w1 ⟨rfl, hb1⟩; have HB := Aside0.mk hb1; clear hb1)
      | (go_at_call 25; go_must (refine (FT.out _ HB.out).mono ?_); rintro e w2 h; go_must (unfold FitSaid at h; obtain ⟨A2, m2, c2, zs, rfl, hmc, HZ, hw0, hfit, hpar, hm12, HB2⟩ := h; have HB := Aside0.mk (step2 HB.out HB2.out); have OZ := Aside0.mk (OA.out A2 m2 c2 zs _ w2 HZ.out hmc hw0 hm12 hfit hpar); clear hw0 hfit hpar hm12 HB2 HZ OA FT))
      | (go_at_call 22; go_must (refine OZ.out.mono ?_); rintro e w3 ⟨p, q, Ak, ck, Ac, cc, rfl, hq, rfl, hb3⟩; have HB := Aside0.mk (below_alloc (step2 HB.out hb3.out) (needB (54 : Nat) (.slice Ak 0 ck) false false (.slice Ac q cc))); have X1 := Aside0.mk (blk_new w3 (needB (54 : Nat) (.slice Ak 0 ck) false false (.slice Ac q cc))); clear hb3; obtain ⟨x0, x1, x2, x3, x4, xf⟩ := cells5' X1.out))
    go_ret
    exact ⟨rfl, HB.out⟩
  · have e40 : ((k : Int) == 40) = false := by simp; omega
    have f40 : (k == 40) = false := by simp; omega
    have e41 : ((k : Int) == 41) = false := by simp; omega
    have f41 : (k == 41) = false := by simp; omega
    have e42 : ((k : Int) == 42) = false := by simp; omega
    have f42 : (k == 42) = false := by simp; omega
    have e50 : ((k : Int) == 50) = false := by simp; omega
    have f50 : (k == 50) = false := by simp; omega
    have e52 : ((k : Int) == 52) = false := by simp; omega
    have f52 : (k == 52) = false := by simp; omega
    have e54 : ((k : Int) == 54) = false := by simp; omega
    have f54 : (k == 54) = false := by simp; omega
    have l43 : (k : Int) < 43 := by omega
    have d43 : decide (k < 43) = true := by simp; omega
    have OA : Aside0 (∀ (A : Option Addr) (n cp : Nat) (xs : List ByteArray) (ok : Nat → Prop) (W : World), Kd.F Kd.string W ok A n xs → n ≤ cp → word xs 0 = (cmdOf k).name → n ≤ 12 → fitsB (cmdOf k) (n : Int) = true → (k = 8 → n % 2 = 1) → Calls Try.prog 22 #[.slice A n cp] W fun e W' => ∃ (p q : Nat) (Ak : Option Addr) (ck : Nat) (Ac : Option Addr) (cc : Nat), 0 < p ∧ q = 0 ∧ e = .returned (.tuple #[.agg #[.int .i64 (k : Nat), .slice Ak p ck, .bool false, .bool false, .slice Ac q cc], .int .i64 0]) ∧ Aside0 (Below W.heap.size W W')) := ⟨fun A n cp xs ok W h1 h2 h3 h4 h5 h6 => by
      obtain ⟨ks, cs, g1, g2, g3⟩ := NO.out xs n (Kd.F_len h1) h3 h4 h5 h6
      have g1 := g1.trans (show _ = ((⟨((k : Nat) : Int), ks, false, false, cs⟩ : NeedD), (0 : Int)) from by first | rfl | simp [f40, f41, f42, f50, f52, f54, d43])
      have g2 : decide (0 < ks.length) = true := g2.trans (by first | rfl | simp [f40, f41, f42, f50, f52, f54, d43])
      have g3 : decide (0 < cs.length) = false := g3.trans (by first | rfl | simp [f40, f41, f42, f50, f52, f54, d43])
      refine (of_named g1 rfl rfl A cp ok W h1 h2 (by omega) (by rw [h3]; exact HSZ.out)).mono fun e W' hh => ?_
      obtain ⟨Ak, ck, Ac, cc, e1, _, _, e4⟩ := hh
      exact ⟨_, _, Ak, ck, Ac, cc, by first | (have := of_decide_eq_true g2; omega) | (have := of_decide_eq_false g2; omega), by first | (have := of_decide_eq_true g3; omega) | (have := of_decide_eq_false g3; omega), e1, e4⟩⟩
    clear NO HSZ HK
    go_enter Try.func8, Try.ntmps8
    go_wp2_with (first
      | (go_at_call 19; go_must (refine (shown8_calls _).mono ?_); rintro e w1 ⟨rfl, hb1⟩; have HB := Aside0.mk hb1; clear hb1)
      | (go_at_call 25; go_must (refine (FT.out _ HB.out).mono ?_); rintro e w2 h; go_must (unfold FitSaid at h; obtain ⟨A2, m2, c2, zs, rfl, hmc, HZ, hw0, hfit, hpar, hm12, HB2⟩ := h; have HB := Aside0.mk (step2 HB.out HB2.out); have OZ := Aside0.mk (OA.out A2 m2 c2 zs _ w2 HZ.out hmc hw0 hm12 hfit hpar); clear hw0 hfit hpar hm12 HB2 HZ OA FT))
      | (go_at_call 22; go_must (refine OZ.out.mono ?_); rintro e w3 ⟨p, q, Ak, ck, Ac, cc, hp, rfl, rfl, hb3⟩; have HB := Aside0.mk (below_alloc (step2 HB.out hb3.out) (needB (k : Nat) (.slice Ak p ck) false false (.slice Ac 0 cc))); have X1 := Aside0.mk (blk_new w3 (needB (k : Nat) (.slice Ak p ck) false false (.slice Ac 0 cc))); clear hb3; obtain ⟨x0, x1, x2, x3, x4, xf⟩ := cells5' X1.out))
    go_ret
    exact ⟨rfl, HB.out⟩
  · have e40 : ((k : Int) == 40) = false := by simp; omega
    have f40 : (k == 40) = false := by simp; omega
    have e41 : ((k : Int) == 41) = false := by simp; omega
    have f41 : (k == 41) = false := by simp; omega
    have e42 : ((k : Int) == 42) = false := by simp; omega
    have f42 : (k == 42) = false := by simp; omega
    have e50 : ((k : Int) == 50) = false := by simp; omega
    have f50 : (k == 50) = false := by simp; omega
    have e52 : ((k : Int) == 52) = false := by simp; omega
    have f52 : (k == 52) = false := by simp; omega
    have e54 : ((k : Int) == 54) = false := by simp; omega
    have f54 : (k == 54) = false := by simp; omega
    have l43 : ¬ (k : Int) < 43 := by omega
    have d43 : decide (k < 43) = false := by simp; omega
    have OA : Aside0 (∀ (A : Option Addr) (n cp : Nat) (xs : List ByteArray) (ok : Nat → Prop) (W : World), Kd.F Kd.string W ok A n xs → n ≤ cp → word xs 0 = (cmdOf k).name → n ≤ 12 → fitsB (cmdOf k) (n : Int) = true → (k = 8 → n % 2 = 1) → Calls Try.prog 22 #[.slice A n cp] W fun e W' => ∃ (p q : Nat) (Ak : Option Addr) (ck : Nat) (Ac : Option Addr) (cc : Nat), p = 0 ∧ q = 0 ∧ e = .returned (.tuple #[.agg #[.int .i64 (k : Nat), .slice Ak p ck, .bool false, .bool false, .slice Ac q cc], .int .i64 0]) ∧ Aside0 (Below W.heap.size W W')) := ⟨fun A n cp xs ok W h1 h2 h3 h4 h5 h6 => by
      obtain ⟨ks, cs, g1, g2, g3⟩ := NO.out xs n (Kd.F_len h1) h3 h4 h5 h6
      have g1 := g1.trans (show _ = ((⟨((k : Nat) : Int), ks, false, false, cs⟩ : NeedD), (0 : Int)) from by first | rfl | simp [f40, f41, f42, f50, f52, f54, d43])
      have g2 : decide (0 < ks.length) = false := g2.trans (by first | rfl | simp [f40, f41, f42, f50, f52, f54, d43])
      have g3 : decide (0 < cs.length) = false := g3.trans (by first | rfl | simp [f40, f41, f42, f50, f52, f54, d43])
      refine (of_named g1 rfl rfl A cp ok W h1 h2 (by omega) (by rw [h3]; exact HSZ.out)).mono fun e W' hh => ?_
      obtain ⟨Ak, ck, Ac, cc, e1, _, _, e4⟩ := hh
      exact ⟨_, _, Ak, ck, Ac, cc, by first | (have := of_decide_eq_true g2; omega) | (have := of_decide_eq_false g2; omega), by first | (have := of_decide_eq_true g3; omega) | (have := of_decide_eq_false g3; omega), e1, e4⟩⟩
    clear NO HSZ HK
    go_enter Try.func8, Try.ntmps8
    go_wp2_with (first
      | (go_at_call 19; go_must (refine (shown8_calls _).mono ?_); rintro e w1 ⟨rfl, hb1⟩; have HB := Aside0.mk hb1; clear hb1)
      | (go_at_call 25; go_must (refine (FT.out _ HB.out).mono ?_); rintro e w2 h; go_must (unfold FitSaid at h; obtain ⟨A2, m2, c2, zs, rfl, hmc, HZ, hw0, hfit, hpar, hm12, HB2⟩ := h; have HB := Aside0.mk (step2 HB.out HB2.out); have OZ := Aside0.mk (OA.out A2 m2 c2 zs _ w2 HZ.out hmc hw0 hm12 hfit hpar); clear hw0 hfit hpar hm12 HB2 HZ OA FT))
      | (go_at_call 22; go_must (refine OZ.out.mono ?_); rintro e w3 ⟨p, q, Ak, ck, Ac, cc, rfl, rfl, rfl, hb3⟩; have HB := Aside0.mk (below_alloc (step2 HB.out hb3.out) (needB (k : Nat) (.slice Ak 0 ck) false false (.slice Ac 0 cc))); have X1 := Aside0.mk (blk_new w3 (needB (k : Nat) (.slice Ak 0 ck) false false (.slice Ac 0 cc))); clear hb3; obtain ⟨x0, x1, x2, x3, x4, xf⟩ := cells5' X1.out))
    go_ret
    exact ⟨rfl, HB.out⟩
end Go.Proofs.Ytflnpgfddedahaa.U
