/- The keys that are read, and written: uses.Reads and Writes. -/
import Derived.Test.YtflnpgfddedahaaV2
namespace Go.Proofs.Ytflnpgfddedahaa.U
open Go.RowKit Go.Great Go.Proofs.YtflnpgfddedahaaW.PrintWords
set_option linter.unusedVariables false
set_option linter.unusedSimpArgs false
/-- The keys of the uses of which something holds. -/
def keysOf (p : UseD → Bool) (ks : List UseD) : List ByteArray := (ks.filter p).map (·.key)
theorem keysOf_yes (p : UseD → Bool) (ks : List UseD) (k : Nat) (h : k < ks.length) (hp : p ks[k] = true) : keysOf p (ks.take (k + 1)) = keysOf p (ks.take k) ++ [ks[k].key] := by
  unfold keysOf
  rw [← List.take_append_getElem h, List.filter_append, List.map_append]
  simp [hp]
theorem keysOf_no (p : UseD → Bool) (ks : List UseD) (k : Nat) (h : k < ks.length) (hp : p ks[k] = false) : keysOf p (ks.take (k + 1)) = keysOf p (ks.take k) := by
  unfold keysOf
  rw [← List.take_append_getElem h, List.filter_append, List.map_append]
  simp [hp]
theorem keysOf_len (p : UseD → Bool) (ks : List UseD) : (keysOf p ks).length ≤ ks.length := by
  unfold keysOf
  rw [List.length_map]
  exact List.length_filter_le _ _
/-- Which of the two closures asks what. -/
def asks (f : Nat) (u : UseD) : Bool := if f = 44 then u.w else u.r
theorem asks_calls (f : Nat) (hf : f = 44 ∨ f = 47) (u : UseD) (W : World) : Calls Try.prog f #[.agg #[.string u.key, .bool u.r, .bool u.w]] W fun e W' => e = .returned (.bool (asks f u)) ∧ Below W.heap.size W W' := by
  rcases hf with rfl | rfl
  · go_enter Try.func44, Try.ntmps44
    go_wp2_with fail
    go_ret
    exact ⟨rfl, below_alloc (Below.refl _ _) _⟩
  · go_enter Try.func47, Try.ntmps47
    go_wp2_with fail
    go_ret
    exact ⟨rfl, below_alloc (Below.refl _ _) _⟩
set_option maxHeartbeats 4000000 in
set_option maxRecDepth 100000 in
theorem keys8_calls (f : Nat) (hf : f = 44 ∨ f = 47) (c : Int) (Ak : Option Addr) (n ck : Nat) (aR aW : Bool) (Ac : Option Addr) (m cc : Nat) (ks : List UseD) (ok : Nat → Prop) (W : World) (hF : Kd.F kUse W ok Ak n ks) (hn : n ≤ 1000000) :
    Calls Try.prog 43 #[.agg #[.int .i64 c, .slice Ak n ck, .bool aR, .bool aW, .slice Ac m cc], .func (.func f) #[] #[]] W fun e W' => ∃ A k, e = .returned (.slice A (keysOf (asks f) ks).length k) ∧ Kd.F Kd.string W' (fun b => W.heap.size ≤ b) A (keysOf (asks f) ks).length (keysOf (asks f) ks) ∧ (keysOf (asks f) ks).length ≤ k ∧ Below W.heap.size W W' := by
  have HF := Aside0.mk hF
  have HL := Aside0.mk (Kd.F_len hF)
  have HFF := Aside0.mk hf
  have AS : Aside0 (∀ u W, Calls Try.prog f #[.agg #[.string u.key, .bool u.r, .bool u.w]] W fun e W' => e = .returned (.bool (asks f u)) ∧ Below W.heap.size W W') := ⟨fun u W => asks_calls f hf u W⟩
  obtain ⟨p, hp⟩ : ∃ p, p = asks f := ⟨_, rfl⟩
  rw [← hp] at AS ⊢
  clear hF hp
  go_enter Try.func43, Try.ntmps43
  go_wp2_with fail
  go_loopw [5, 11] (fun v5 v11 wr => ∃ (k : Nat) (A5 : Option Addr) (m5 c5 : Nat), k ≤ n ∧ v11 = .int .i64 k ∧ v5 = .slice A5 m5 c5 ∧ W.heap.size < wr.heap.size ∧ Aside0 (Kd.N Kd.string 9 wr W.heap.size (fun b => W.heap.size ≤ b) v5 (keysOf p (ks.take k))) ∧ Aside0 (Below W.heap.size W wr)) (fun _ v11 _ => n - (intOf v11).toNat)
  case atStart => exact ⟨0, none, 0, 0, Nat.zero_le _, rfl, rfl, by simp, ⟨Kd.N_nil _ _ _ _ _⟩, ⟨below_alloc (Below.refl _ _) _⟩⟩
  case round =>
    obtain ⟨k, A5, m5, c5, hkn, rfl, rfl, hlt, HN, HB⟩ := hrel
    by_cases hk : k < n
    · obtain ⟨ad, hl, rfl, c0, c1, c2⟩ := use_cell (Kd.F_below HF.out HB.out) k hk
      have HY := Aside0.mk (keysOf_yes p ks k hl)
      have HNo := Aside0.mk (keysOf_no p ks k hl)
      obtain ⟨u, hu⟩ : ∃ u, ks[k] = u := ⟨_, rfl⟩
      rw [hu] at c0 c1 c2 HY HNo
      clear hu
      have i0 : (0 : Int) ≤ (k : Int) := by omega
      have i1 : (k : Int) < (n : Int) := by omega
      cases hp : p u
      · have ASu : Aside0 (∀ W, Calls Try.prog f #[.agg #[.string u.key, .bool u.r, .bool u.w]] W fun e W' => e = .returned (.bool false) ∧ Below W.heap.size W W') := ⟨fun W => by have h := AS.out u W; rw [hp] at h; exact h⟩
        have HK := Aside0.mk (HNo.out hp)
        clear AS HY HNo hp
        rcases HFF.out with rfl | rfl
        · go_wp2_with ((go_at_call 44; go_must (refine (ASu.out _).mono ?_); rintro e w2 ⟨rfl, hb2⟩; have hb2' := (below_alloc (Below.refl wr.heap.size wr) (.cells #[.string u.key, .bool u.r, .bool u.w] 56)).trans (hb2.mono (by simp)); have HB2 := Aside0.mk hb2'; clear hb2 hb2'))
          go_roundw
          case rel => exact ⟨k + 1, A5, m5, c5, by omega, by go_num, rfl, Nat.lt_of_lt_of_le hlt HB2.out.size, ⟨by rw [HK.out]; exact Kd.N_below HN.out HB2.out⟩, ⟨step2 HB.out HB2.out⟩⟩
          case measure => simp [intOf]; omega
        · go_wp2_with ((go_at_call 47; go_must (refine (ASu.out _).mono ?_); rintro e w2 ⟨rfl, hb2⟩; have hb2' := (below_alloc (Below.refl wr.heap.size wr) (.cells #[.string u.key, .bool u.r, .bool u.w] 56)).trans (hb2.mono (by simp)); have HB2 := Aside0.mk hb2'; clear hb2 hb2'))
          go_roundw
          case rel => exact ⟨k + 1, A5, m5, c5, by omega, by go_num, rfl, Nat.lt_of_lt_of_le hlt HB2.out.size, ⟨by rw [HK.out]; exact Kd.N_below HN.out HB2.out⟩, ⟨step2 HB.out HB2.out⟩⟩
          case measure => simp [intOf]; omega
      · have ASu : Aside0 (∀ W, Calls Try.prog f #[.agg #[.string u.key, .bool u.r, .bool u.w]] W fun e W' => e = .returned (.bool true) ∧ Below W.heap.size W W') := ⟨fun W => by have h := AS.out u W; rw [hp] at h; exact h⟩
        have HK := Aside0.mk (HY.out hp)
        clear AS HY HNo hp
        rcases HFF.out with rfl | rfl
        · go_wp2_with (first | (go_at_call 44; go_must (refine (ASu.out _).mono ?_); rintro e w2 ⟨rfl, hb2⟩; have X := blk_below (blk_new wr (.cells #[.string u.key, .bool u.r, .bool u.w] 56)) hb2; obtain ⟨x0, x1, x2, xf⟩ := cells3 X; have hb2' := (below_alloc (Below.refl wr.heap.size wr) (.cells #[.string u.key, .bool u.r, .bool u.w] 56)).trans (hb2.mono (by simp)); have HB2 := Aside0.mk hb2'; clear hb2 hb2' X) | ((with_reducible refine gate_builtin (b := .append) (xs := #[.tmp 18, .tmp 21]) rfl ?_); at_builtin; go_must (refine Kd.N_append Kd.string (w0 := W) W.heap.size rfl (.tmp 18) (.tmp 21) 35 9 (.string ⟨#[]⟩) 16 rfl Try.underlying35 info9 rfl (by decide) (by decide) _ (keysOf p (ks.take k)) u.key [.string u.key] (fun b => W.heap.size ≤ b) (fun _ => False) ?hs ?hx ?x1 (fun _ h => h.elim) ?x3 (Kd.N_below HN.out HB2.out) (step2 HB.out HB2.out) ?x6 ?x7 ?_); go_must ((case hs => rfl)); go_must ((case hx => rfl)); go_must ((case x1 => exact fun W' _ => rfl)); go_must ((case x3 => exact fun b hb => Nat.le_trans (Nat.le_trans (Nat.le_of_lt hlt) HB2.out.size) hb)); go_must ((case x6 => exact Nat.le_trans (Nat.le_of_lt hlt) HB2.out.size)); go_must ((case x7 => have h1 := keysOf_len p (ks.take k); have h2 : (ks.take k).length ≤ k := List.length_take_le k ks; omega)); intro v3 w3 hN3 hb3 hg3 _; go_must (obtain ⟨A3, c3, rfl⟩ := Kd.N_slice hN3; have hlt3 : W.heap.size < w3.heap.size := Nat.lt_of_lt_of_le (Nat.lt_of_lt_of_le hlt HB2.out.size) hg3.size; obtain ⟨m3, hm3⟩ : ∃ m3, m3 = (keysOf p (ks.take k) ++ [u.key]).length := ⟨_, rfl⟩; rw [← hm3] at hN3 ⊢; clear hm3; have HN3 := Aside0.mk hN3; have HB3 := Aside0.mk hb3; clear hN3 hb3 hg3)))
          go_roundw
          case rel => exact ⟨k + 1, A3, m3, c3, by omega, by go_num, rfl, hlt3, ⟨by rw [HK.out]; exact HN3.out⟩, HB3⟩
          case measure => simp [intOf]; omega
        · go_wp2_with (first | (go_at_call 47; go_must (refine (ASu.out _).mono ?_); rintro e w2 ⟨rfl, hb2⟩; have X := blk_below (blk_new wr (.cells #[.string u.key, .bool u.r, .bool u.w] 56)) hb2; obtain ⟨x0, x1, x2, xf⟩ := cells3 X; have hb2' := (below_alloc (Below.refl wr.heap.size wr) (.cells #[.string u.key, .bool u.r, .bool u.w] 56)).trans (hb2.mono (by simp)); have HB2 := Aside0.mk hb2'; clear hb2 hb2' X) | ((with_reducible refine gate_builtin (b := .append) (xs := #[.tmp 18, .tmp 21]) rfl ?_); at_builtin; go_must (refine Kd.N_append Kd.string (w0 := W) W.heap.size rfl (.tmp 18) (.tmp 21) 35 9 (.string ⟨#[]⟩) 16 rfl Try.underlying35 info9 rfl (by decide) (by decide) _ (keysOf p (ks.take k)) u.key [.string u.key] (fun b => W.heap.size ≤ b) (fun _ => False) ?hsb ?hxb ?x1b (fun _ h => h.elim) ?x3b (Kd.N_below HN.out HB2.out) (step2 HB.out HB2.out) ?x6b ?x7b ?_); go_must ((case hsb => rfl)); go_must ((case hxb => rfl)); go_must ((case x1b => exact fun W' _ => rfl)); go_must ((case x3b => exact fun b hb => Nat.le_trans (Nat.le_trans (Nat.le_of_lt hlt) HB2.out.size) hb)); go_must ((case x6b => exact Nat.le_trans (Nat.le_of_lt hlt) HB2.out.size)); go_must ((case x7b => have h1 := keysOf_len p (ks.take k); have h2 : (ks.take k).length ≤ k := List.length_take_le k ks; omega)); intro v3 w3 hN3 hb3 hg3 _; go_must (obtain ⟨A3, c3, rfl⟩ := Kd.N_slice hN3; have hlt3 : W.heap.size < w3.heap.size := Nat.lt_of_lt_of_le (Nat.lt_of_lt_of_le hlt HB2.out.size) hg3.size; obtain ⟨m3, hm3⟩ : ∃ m3, m3 = (keysOf p (ks.take k) ++ [u.key]).length := ⟨_, rfl⟩; rw [← hm3] at hN3 ⊢; clear hm3; have HN3 := Aside0.mk hN3; have HB3 := Aside0.mk hb3; clear hN3 hb3 hg3)))
          go_roundw
          case rel => exact ⟨k + 1, A3, m3, c3, by omega, by go_num, rfl, hlt3, ⟨by rw [HK.out]; exact HN3.out⟩, HB3⟩
          case measure => simp [intOf]; omega
    · have hkl : ks.take k = ks := List.take_of_length_le (by have := HL.out; omega)
      rw [hkl] at HN
      have i1 : ¬ (k : Int) < (n : Int) := by omega
      go_wp2_with fail
      go_ret
      obtain ⟨A, c6, e6⟩ := Kd.N_slice HN.out
      injection e6 with e6 e7 e8
      subst e6 e7 e8
      exact ⟨_, _, rfl, Kd.N_F HN.out, (Kd.N_reads' HN.out).2.1, HB.out⟩

section
variable (c : Int) (Ak : Option Addr) (n ck : Nat) (aR aW : Bool) (Ac : Option Addr) (m cc : Nat) (ks : List UseD) (ok : Nat → Prop) (W : World)
theorem reads_calls (hF : Kd.F kUse W ok Ak n ks) (hn : n ≤ 1000000) :
    Calls Try.prog 31 #[.agg #[.int .i64 c, .slice Ak n ck, .bool aR, .bool aW, .slice Ac m cc]] W fun e W' => ∃ A k, e = .returned (.slice A (keysOf (·.r) ks).length k) ∧ Kd.F Kd.string W' (fun b => W.heap.size ≤ b) A (keysOf (·.r) ks).length (keysOf (·.r) ks) ∧ (keysOf (·.r) ks).length ≤ k ∧ Below W.heap.size W W' := by
  have HA : Aside0 (∀ W0 : World, Below W.heap.size W W0 → Calls Try.prog 43 #[.agg #[.int .i64 c, .slice Ak n ck, .bool aR, .bool aW, .slice Ac m cc], .func (.func 47) #[] #[]] W0 fun e W' => ∃ A k, e = .returned (.slice A (keysOf (·.r) ks).length k) ∧ Aside0 (Kd.F Kd.string W' (fun b => W0.heap.size ≤ b) A (keysOf (·.r) ks).length (keysOf (·.r) ks)) ∧ (keysOf (·.r) ks).length ≤ k ∧ Below W0.heap.size W0 W') := ⟨fun W0 hb => (keys8_calls 47 (.inr rfl) c Ak n ck aR aW Ac m cc ks ok W0 (Kd.F_below hF hb) hn).mono fun e W' ⟨A, k, h1, h2, h3, h4⟩ => ⟨A, k, h1, ⟨h2⟩, h3, h4⟩⟩
  obtain ⟨ys, hys⟩ : ∃ ys, ys = keysOf (·.r) ks := ⟨_, rfl⟩
  rw [← hys] at HA ⊢
  clear hF hys
  go_enter Try.func31, Try.ntmps31
  go_wp2_with (go_at_call 43; go_must (refine (HA.out _ (below_alloc (Below.refl _ _) _)).mono ?_); rintro e w1 ⟨A, k, rfl, HF, hk, hb⟩; have HK := Aside0.mk hk; have HB := Aside0.mk (step2 (below_alloc (Below.refl _ _) _) hb); clear hb hk)
  go_ret
  exact ⟨A, k, rfl, Kd.F_mono HF.out (fun b hb => by simp at hb; omega), HK.out, HB.out⟩
theorem writes_calls (hF : Kd.F kUse W ok Ak n ks) (hn : n ≤ 1000000) :
    Calls Try.prog 29 #[.agg #[.int .i64 c, .slice Ak n ck, .bool aR, .bool aW, .slice Ac m cc]] W fun e W' => ∃ A k, e = .returned (.slice A (keysOf (·.w) ks).length k) ∧ Kd.F Kd.string W' (fun b => W.heap.size ≤ b) A (keysOf (·.w) ks).length (keysOf (·.w) ks) ∧ (keysOf (·.w) ks).length ≤ k ∧ Below W.heap.size W W' := by
  have HA : Aside0 (∀ W0 : World, Below W.heap.size W W0 → Calls Try.prog 43 #[.agg #[.int .i64 c, .slice Ak n ck, .bool aR, .bool aW, .slice Ac m cc], .func (.func 44) #[] #[]] W0 fun e W' => ∃ A k, e = .returned (.slice A (keysOf (·.w) ks).length k) ∧ Aside0 (Kd.F Kd.string W' (fun b => W0.heap.size ≤ b) A (keysOf (·.w) ks).length (keysOf (·.w) ks)) ∧ (keysOf (·.w) ks).length ≤ k ∧ Below W0.heap.size W0 W') := ⟨fun W0 hb => (keys8_calls 44 (.inl rfl) c Ak n ck aR aW Ac m cc ks ok W0 (Kd.F_below hF hb) hn).mono fun e W' ⟨A, k, h1, h2, h3, h4⟩ => ⟨A, k, h1, ⟨h2⟩, h3, h4⟩⟩
  obtain ⟨ys, hys⟩ : ∃ ys, ys = keysOf (·.w) ks := ⟨_, rfl⟩
  rw [← hys] at HA ⊢
  clear hF hys
  go_enter Try.func29, Try.ntmps29
  go_wp2_with (go_at_call 43; go_must (refine (HA.out _ (below_alloc (Below.refl _ _) _)).mono ?_); rintro e w1 ⟨A, k, rfl, HF, hk, hb⟩; have HK := Aside0.mk hk; have HB := Aside0.mk (step2 (below_alloc (Below.refl _ _) _) hb); clear hb hk)
  go_ret
  exact ⟨A, k, rfl, Kd.F_mono HF.out (fun b hb => by simp at hb; omega), HK.out, HB.out⟩
end
end Go.Proofs.Ytflnpgfddedahaa.U
