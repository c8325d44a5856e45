/- The first words of some: few; the reference's Lower. -/
import Derived.Test.YtflnpgfddedahaaV7
namespace Go.Proofs.Ytflnpgfddedahaa.U
open Go.RowKit Go.Great Go.Proofs.YtflnpgfddedahaaW.PrintWords
set_option linter.unusedVariables false
set_option linter.unusedSimpArgs false
theorem few_calls (A : Option Addr) (n c : Nat) (xs : List ByteArray) (ok : Nat → Prop) (w : World) (h : Kd.F Kd.string w ok A n xs) (hc : n ≤ c) :
    Calls Try.prog 20 #[.slice A n c] w fun e w' => ∃ m, e = .returned (.slice A m c) ∧ m = min n 40 ∧ w' = w := by
  by_cases hn : 40 < n
  · have i0 : (40 : Int) < (n : Int) := by omega
    have i1 : (40 : Int) ≤ (c : Int) := by omega
    have i2 : 40 ≤ c := by omega
    go_enter Try.func20, Try.ntmps20
    go_wp2_with fail
    go_ret
    exact ⟨40, rfl, by omega, rfl⟩
  · have i0 : ¬ (40 : Int) < (n : Int) := by omega
    go_enter Try.func20, Try.ntmps20
    go_wp2_with fail
    go_ret
    exact ⟨n, rfl, by omega, rfl⟩
theorem few_F {A : Option Addr} {n : Nat} {xs : List ByteArray} {ok : Nat → Prop} {w : World} (h : Kd.F Kd.string w ok A n xs) : Kd.F Kd.string w ok A (min n 40) (xs.take 40) := by
  have hl := Kd.F_len h
  subst hl
  have h2 := Kd.F_take h (m := min xs.length 40) (Nat.min_le_left _ _)
  rw [List.length_take, Nat.min_eq_left (Nat.min_le_left _ _)] at h2
  rwa [show xs.take (min xs.length 40) = xs.take 40 from List.take_eq_take_iff.2 (by omega)] at h2

theorem info5' : (Try.prog.info? 5).map (fun i => (i.zero, i.size, i.bytes)) = some (some (.int .u8 0), 1, 1) := by kernel_rfl
/-- Bytes as whole numbers. -/
def ints (l : List UInt8) : List Int := l.map fun b => (b.toNat : Int)
theorem low_up (x : UInt8) (h1 : 65 ≤ x.toNat) (h2 : x.toNat ≤ 90) : ((low x).toNat : Int) = (x.toNat : Int) + 32 := by
  have h : ∀ n : Nat, n < 256 → 65 ≤ n → n ≤ 90 → (low (UInt8.ofNat n)).toNat = n + 32 := by decide +kernel
  have := h x.toNat x.toNat_lt h1 h2
  rw [UInt8.ofNat_toNat] at this
  omega
theorem back_bytes (A : Option Addr) (m c : Nat) (l : List UInt8) (e base : Nat) (ok : Nat → Prop) (w : World) (h : Kd.N (Kd.int .u8) e w base ok (.slice A m c) (ints l)) : (convert 29 9 (.slice A m c)).run Try.prog w = .ok (.string ⟨l.toArray⟩) w := by
  have hm : m = l.length := by have := (Kd.N_reads' h).1; simpa [ints] using this
  subst hm
  have hF := Kd.F_now (Kd.N_F h)
  cases A with
  | none =>
    have hl : l = [] := by
      cases l with
      | nil => rfl
      | cons x l => obtain ⟨ad, e, _⟩ := Kd.at_int hF 0 (by omega) (by simp); cases e
    subst hl
    show (convert 29 9 (.slice none 0 c)).run Try.prog w = _
    rw [run_convert_bytes_string (P := Try.prog) w 29 9 5 none 0 c Try.underlying29 Try.underlying5 Try.underlying9]
    simp [Conv.bytesToString]
    rfl
  | some a =>
    refine run_convert_bytes_back (P := Try.prog) w 29 9 5 a c l Try.underlying29 Try.underlying5 Try.underlying9 (fun j hj => ?_)
    obtain ⟨ad, e, hc⟩ := Kd.at_int hF (j : Int) (by omega) (by omega)
    injection e with e
    subst e
    rw [Int.toNat_natCast] at hc
    rw [hc]
    simp [rd, ints, List.getD_eq_getElem?_getD, hj]
set_option maxHeartbeats 4000000 in
set_option maxRecDepth 100000 in
theorem refLower_calls (s : ByteArray) (W : World) (hs : s.size ≤ 140737488351232) : Calls Try.prog 21 #[.string s] W fun e W' => e = .returned (.string (lowS s)) ∧ Below W.heap.size W W' := by
  have hlen : s.data.toList.length = s.size := by simp
  go_enter Try.func21, Try.ntmps21
  go_wp2_with ((with_reducible refine gate_dst (N := 6) rfl ?_); go_must (refine Kd.N_lit (Kd.int .u8) (w0 := W) W.heap.size 5 rfl (N' := 6) rfl (xs := ([] : List Int)) (inner := []) (ok := fun _ => True) (okp := fun _ => False) ?hr ?hp (fun _ hk => hk.elim) trivial (Below.refl _ _) (Nat.le_refl _) (by decide) ?_); go_must ((case hr => go_simp; try rfl)); go_must ((case hp => exact Reps.none _ _)); go_must (intro v1 w1 hN hb hg1 hv; obtain ⟨A1, c1, rfl⟩ := Kd.N_slice hN; have HN1 := Aside0.mk hN; have HB1 := Aside0.mk hb; clear hN hb hg1 hv))
  go_loopw [3, 4] (fun v3 v4 wr => ∃ (k : Nat) (A3 : Option Addr) (m3 c3 : Nat), k ≤ s.size ∧ v4 = .int .i64 k ∧ v3 = .slice A3 m3 c3 ∧ Aside0 (Kd.N (Kd.int .u8) 5 wr W.heap.size (fun _ => True) (.slice A3 m3 c3) (ints (lower (s.data.toList.take k)))) ∧ Aside0 (Below W.heap.size W wr)) (fun _ v4 _ => s.size - (intOf v4).toNat)
  case atStart => exact ⟨0, A1, _, c1, Nat.zero_le _, rfl, rfl, HN1, HB1⟩
  case round =>
    obtain ⟨k, A3, m3, c3, hk, rfl, rfl, HN, HB⟩ := hrel
    by_cases hlt : k < s.size
    · have i0 : (k : Int) < (s.size : Int) := by omega
      have i1 : (0 : Int) ≤ (k : Int) := by omega
      have hkl : k < s.data.toList.length := by rw [hlen]; exact hlt
      have HY : Aside0 (ints (lower (s.data.toList.take (k + 1))) = ints (lower (s.data.toList.take k)) ++ [((low s[k]).toNat : Int)]) := ⟨by
        rw [lower_snoc s.data.toList k hkl]
        simp [ints]
        rfl⟩
      have HLL : Aside0 ((ints (lower (s.data.toList.take k))).length + 1 ≤ 140737488355328) := ⟨by simp [ints, lower]; omega⟩
      by_cases hA : 65 ≤ s[k].toNat ∧ s[k].toNat ≤ 90
      · have i2 : (65 : Int) ≤ (s[k].toNat : Int) := by omega
        have i3 : (s[k].toNat : Int) ≤ 90 := by omega
        have HLW : Aside0 (((low s[k]).toNat : Int) = (s[k].toNat : Int) + 32) := ⟨low_up s[k] hA.1 hA.2⟩
        go_wp2_with ((with_reducible refine gate_builtin (b := .append) (xs := #[.tmp 24, .tmp 26]) rfl ?_); at_builtin; go_must (refine Kd.N_append (Kd.int .u8) (w0 := W) W.heap.size rfl (.tmp 24) (.tmp 26) 29 5 (.int .u8 0) 1 rfl Try.underlying29 info5' rfl (by decide) (by decide) (.slice A3 m3 c3) (ints (lower (s.data.toList.take k))) ((s[k].toNat : Int) + 32) [.int .u8 ((s[k].toNat : Int) + 32)] (fun _ => True) (fun _ => False) ?hsA ?hxA ?x1A (fun _ h => h.elim) (fun _ _ => trivial) HN.out HB.out HB.out.size ?x7A ?_); go_must ((case hsA => rfl)); go_must ((case hxA => rfl)); go_must ((case x1A => exact fun W' _ => rfl)); go_must ((case x7A => have h1 := HLL.out; omega)); go_must (intro v3 w3 hN3 hb3 hg3 _; obtain ⟨A4, c4, rfl⟩ := Kd.N_slice hN3; have HN3 := Aside0.mk hN3; obtain ⟨m4, hm4⟩ : ∃ m4, m4 = (ints (lower (s.data.toList.take k)) ++ [((s[k].toNat : Int) + 32 : Int)]).length := ⟨_, rfl⟩; rw [← hm4] at HN3 ⊢; have HB3 := Aside0.mk hb3; clear hN3 hb3 hg3 hm4))
        go_roundw
        case rel => exact ⟨k + 1, A4, m4, c4, by omega, by go_num, rfl, ⟨by rw [HY.out, HLW.out]; exact HN3.out⟩, HB3⟩
        case measure => simp [intOf]; omega
      · have HLW : Aside0 (((low s[k]).toNat : Int) = (s[k].toNat : Int)) := ⟨by rw [low_same s[k] hA]⟩
        rcases (show (s[k].toNat : Int) < 65 ∨ ((65 : Int) ≤ (s[k].toNat : Int) ∧ (90 : Int) < (s[k].toNat : Int)) by omega) with i2 | ⟨i2, i3⟩
        · have i4 : ¬ (65 : Int) ≤ (s[k].toNat : Int) := by omega
          go_wp2_with ((with_reducible refine gate_builtin (b := .append) (xs := #[.tmp 24, .tmp 26]) rfl ?_); at_builtin; go_must (refine Kd.N_append (Kd.int .u8) (w0 := W) W.heap.size rfl (.tmp 24) (.tmp 26) 29 5 (.int .u8 0) 1 rfl Try.underlying29 info5' rfl (by decide) (by decide) (.slice A3 m3 c3) (ints (lower (s.data.toList.take k))) ((s[k].toNat : Int)) [.int .u8 ((s[k].toNat : Int))] (fun _ => True) (fun _ => False) ?hsB ?hxB ?x1B (fun _ h => h.elim) (fun _ _ => trivial) HN.out HB.out HB.out.size ?x7B ?_); go_must ((case hsB => rfl)); go_must ((case hxB => rfl)); go_must ((case x1B => exact fun W' _ => rfl)); go_must ((case x7B => have h1 := HLL.out; omega)); go_must (intro v3 w3 hN3 hb3 hg3 _; obtain ⟨A4, c4, rfl⟩ := Kd.N_slice hN3; have HN3 := Aside0.mk hN3; obtain ⟨m4, hm4⟩ : ∃ m4, m4 = (ints (lower (s.data.toList.take k)) ++ [((s[k].toNat : Int) : Int)]).length := ⟨_, rfl⟩; rw [← hm4] at HN3 ⊢; have HB3 := Aside0.mk hb3; clear hN3 hb3 hg3 hm4))
          go_roundw
          case rel => exact ⟨k + 1, A4, m4, c4, by omega, by go_num, rfl, ⟨by rw [HY.out, HLW.out]; exact HN3.out⟩, HB3⟩
          case measure => simp [intOf]; omega
        · have i4 : ¬ (s[k].toNat : Int) ≤ 90 := by omega
          go_wp2_with ((with_reducible refine gate_builtin (b := .append) (xs := #[.tmp 24, .tmp 26]) rfl ?_); at_builtin; go_must (refine Kd.N_append (Kd.int .u8) (w0 := W) W.heap.size rfl (.tmp 24) (.tmp 26) 29 5 (.int .u8 0) 1 rfl Try.underlying29 info5' rfl (by decide) (by decide) (.slice A3 m3 c3) (ints (lower (s.data.toList.take k))) ((s[k].toNat : Int)) [.int .u8 ((s[k].toNat : Int))] (fun _ => True) (fun _ => False) ?hsC ?hxC ?x1C (fun _ h => h.elim) (fun _ _ => trivial) HN.out HB.out HB.out.size ?x7C ?_); go_must ((case hsC => rfl)); go_must ((case hxC => rfl)); go_must ((case x1C => exact fun W' _ => rfl)); go_must ((case x7C => have h1 := HLL.out; omega)); go_must (intro v3 w3 hN3 hb3 hg3 _; obtain ⟨A4, c4, rfl⟩ := Kd.N_slice hN3; have HN3 := Aside0.mk hN3; obtain ⟨m4, hm4⟩ : ∃ m4, m4 = (ints (lower (s.data.toList.take k)) ++ [((s[k].toNat : Int) : Int)]).length := ⟨_, rfl⟩; rw [← hm4] at HN3 ⊢; have HB3 := Aside0.mk hb3; clear hN3 hb3 hg3 hm4))
          go_roundw
          case rel => exact ⟨k + 1, A4, m4, c4, by omega, by go_num, rfl, ⟨by rw [HY.out, HLW.out]; exact HN3.out⟩, HB3⟩
          case measure => simp [intOf]; omega
    · have hkk : s.data.toList.take k = s.data.toList := List.take_of_length_le (by omega)
      rw [hkk] at HN
      have hbk := back_bytes A3 m3 c3 _ _ _ _ _ HN.out
      have i0 : ¬ (k : Int) < (s.size : Int) := by omega
      go_wp2_with fail
      go_ret
      exact ⟨rfl, HB.out⟩
end Go.Proofs.Ytflnpgfddedahaa.U
