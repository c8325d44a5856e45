/- The reference's Reads and Writes. -/
import Derived.Test.YtflnpgfddedahaaV3
namespace Go.Proofs.Ytflnpgfddedahaa.U
open Go.RowKit Go.Great Go.Proofs.YtflnpgfddedahaaW.PrintWords
set_option linter.unusedVariables false
set_option linter.unusedSimpArgs false
/-- A row of the call's own is answered. -/
def RowSaid {α : Type} (d : Kd α) (xs : List α) (W : World) (e : Ending) (W' : World) : Prop := ∃ A k, e = .returned (.slice A xs.length k) ∧ xs.length ≤ k ∧ Aside0 (Kd.F d W' (fun b => W.heap.size ≤ b) A xs.length xs) ∧ Aside0 (Below W.heap.size W W')
set_option maxHeartbeats 4000000 in
set_option maxRecDepth 100000 in
theorem refReads_calls (c : Int) (Ak : Option Addr) (n ck : Nat) (aR aW : Bool) (Ac : Option Addr) (m cc : Nat) (ks : List UseD) (ok : Nat → Prop) (W : World) (hF : Kd.F kUse W ok Ak n ks) (hn : n ≤ 1000000) :
    Calls Try.prog 32 #[.agg #[.int .i64 c, .slice Ak n ck, .bool aR, .bool aW, .slice Ac m cc]] W fun e W' => RowSaid Kd.string (keysOf (·.r) ks) W e W' := by
  have HL := Aside0.mk (Kd.F_len hF)
  have HF := Aside0.mk hF
  clear hF
  have HBX := Aside0.mk (below_alloc (Below.refl W.heap.size W) (needB c (.slice Ak n ck) aR aW (.slice Ac m cc)))
  have HX := Aside0.mk (blk_new W (needB c (.slice Ak n ck) aR aW (.slice Ac m cc)))
  obtain ⟨x0, x1, x2, x3, x4, xf⟩ := cells5' HX.out
  go_enter Try.func32, Try.ntmps32
  go_wp2_with ((with_reducible refine gate_dst (N := 5) rfl ?_); go_must (refine Kd.N_lit Kd.string (w0 := W.alloc (needB c (.slice Ak n ck) aR aW (.slice Ac m cc))) (W.alloc (needB c (.slice Ak n ck) aR aW (.slice Ac m cc))).heap.size 9 rfl (N' := 5) rfl (xs := ([] : List ByteArray)) (inner := []) (ok := fun b => W.heap.size ≤ b) (okp := fun _ => False) (by go_simp; try rfl) (Reps.none _ _) (fun _ hk => hk.elim) HBX.out.size (Below.refl _ _) (Nat.le_refl _) (by decide) ?_); go_must (intro v1 w1 hN hb hg1 hv; obtain ⟨A1, c1, rfl⟩ := Kd.N_slice hN; have HN1 := Aside0.mk hN; have HB1 := Aside0.mk hb; clear x0 x1 x2 x3 x4 xf hN hb hg1 hv))
  obtain ⟨wB, hwB⟩ : ∃ wB, wB = W.alloc (needB c (.slice Ak n ck) aR aW (.slice Ac m cc)) := ⟨_, rfl⟩
  rw [← hwB] at HN1 HB1 HBX HX
  go_loopw [3, 4] (fun v3 v4 wr => ∃ (j : Nat) (A3 : Option Addr) (m3 c3 : Nat), j ≤ n ∧ v4 = .int .i64 j ∧ v3 = .slice A3 m3 c3 ∧ Aside0 (Kd.N Kd.string 9 wr wB.heap.size (fun b => W.heap.size ≤ b) (.slice A3 m3 c3) (keysOf (·.r) (ks.take j))) ∧ Aside0 (Below wB.heap.size wB wr)) (fun _ v4 _ => n - (intOf v4).toNat)
  case atStart => exact ⟨0, A1, _, c1, Nat.zero_le _, rfl, rfl, HN1, HB1⟩
  case round =>
    obtain ⟨j, A3, m3, c3, hjn, rfl, rfl, HN, HB⟩ := hrel
    obtain ⟨x0, x1, x2, x3, x4, xf⟩ := cells5' (blk_below HX.out HB.out)
    by_cases hj : j < n
    · obtain ⟨ad, hl, rfl, d0, d1, d2⟩ := use_cell (Kd.F_below HF.out (step2 HBX.out HB.out)) j hj
      have i0 : (j : Int) < (n : Int) := by omega
      have i1 : (0 : Int) ≤ (j : Int) := by omega
      obtain ⟨u, hu⟩ : ∃ u, u = ks[j] := ⟨_, rfl⟩
      have HY := Aside0.mk (keysOf_yes (·.r) ks j hl)
      have HNo := Aside0.mk (keysOf_no (·.r) ks j hl)
      rw [← hu] at d0 d1 d2 HY HNo
      clear hu
      obtain ⟨uk, ur, uw⟩ := u
      simp only at d0 d1 d2 HY HNo
      have HLL : Aside0 ((keysOf (·.r) (ks.take j)).length ≤ j) := ⟨by
        have h1 := keysOf_len (·.r) (ks.take j)
        have h2 : (ks.take j).length ≤ j := List.length_take_le j ks
        omega⟩
      cases ur
      · go_wp2_with fail
        go_roundw
        case rel => exact ⟨j + 1, A3, m3, c3, by omega, by go_num, rfl, ⟨by rw [HNo.out rfl]; exact HN.out⟩, HB⟩
        case measure => simp [intOf]; omega
      · go_wp2_with ((with_reducible refine gate_builtin (b := .append) (xs := #[.tmp 19, .tmp 26]) rfl ?_); at_builtin; go_must (refine Kd.N_append Kd.string (w0 := wB) wB.heap.size rfl (.tmp 19) (.tmp 26) 35 9 (.string ⟨#[]⟩) 16 rfl Try.underlying35 info9 rfl (by decide) (by decide) (.slice A3 m3 c3) (keysOf (·.r) (ks.take j)) uk [.string uk] (fun b => W.heap.size ≤ b) (fun _ => False) (by rfl) (by rfl) (fun W' _ => rfl) (fun _ h => h.elim) (fun b hb => Nat.le_trans (step2 HBX.out HB.out).size hb) HN.out HB.out HB.out.size (by have h1 := HLL.out; omega) ?_); go_must (intro v6 w6 hN6 hb6 hg6 _; obtain ⟨A6, c6, rfl⟩ := Kd.N_slice hN6; obtain ⟨m6, hm6⟩ : ∃ m6, m6 = (keysOf (·.r) (ks.take j) ++ [uk]).length := ⟨_, rfl⟩; rw [← hm6] at hN6 ⊢; have HN6 := Aside0.mk hN6; have HB6 := Aside0.mk hb6; clear hN6 hb6 hg6 hm6))
        go_roundw
        case rel => exact ⟨j + 1, A6, m6, c6, by omega, by go_num, rfl, ⟨by rw [HY.out rfl]; exact HN6.out⟩, HB6⟩
        case measure => simp [intOf]; omega
    · have hjl : ks.take j = ks := List.take_of_length_le (by have := HL.out; omega)
      rw [hjl] at HN
      have i0 : ¬ (j : Int) < (n : Int) := by omega
      have hm := (Kd.N_reads' HN.out).1
      obtain ⟨A4, c4, he⟩ := Kd.N_slice HN.out
      injection he with e1 e2 e3
      subst e1
      subst e2
      subst e3
      generalize hq : keysOf (·.r) ks = q at *
      go_wp2_with fail
      refine bodyPost_ret (v := .slice A3 q.length c3) (by simp [results, Try.results32, go_sem]) rfl ?_
      unfold RowSaid
      exact ⟨A3, c3, rfl, (Kd.N_reads' HN.out).2.1, ⟨Kd.N_F HN.out⟩, ⟨step2 HBX.out HB.out⟩⟩
set_option maxHeartbeats 4000000 in
set_option maxRecDepth 100000 in
theorem refWrites_calls (c : Int) (Ak : Option Addr) (n ck : Nat) (aR aW : Bool) (Ac : Option Addr) (m cc : Nat) (ks : List UseD) (ok : Nat → Prop) (W : World) (hF : Kd.F kUse W ok Ak n ks) (hn : n ≤ 1000000) :
    Calls Try.prog 33 #[.agg #[.int .i64 c, .slice Ak n ck, .bool aR, .bool aW, .slice Ac m cc]] W fun e W' => RowSaid Kd.string (keysOf (·.w) ks) W e W' := by
  have HL := Aside0.mk (Kd.F_len hF)
  have HF := Aside0.mk hF
  clear hF
  have HBX := Aside0.mk (below_alloc (Below.refl W.heap.size W) (needB c (.slice Ak n ck) aR aW (.slice Ac m cc)))
  have HX := Aside0.mk (blk_new W (needB c (.slice Ak n ck) aR aW (.slice Ac m cc)))
  obtain ⟨x0, x1, x2, x3, x4, xf⟩ := cells5' HX.out
  go_enter Try.func33, Try.ntmps33
  go_wp2_with ((with_reducible refine gate_dst (N := 5) rfl ?_); go_must (refine Kd.N_lit Kd.string (w0 := W.alloc (needB c (.slice Ak n ck) aR aW (.slice Ac m cc))) (W.alloc (needB c (.slice Ak n ck) aR aW (.slice Ac m cc))).heap.size 9 rfl (N' := 5) rfl (xs := ([] : List ByteArray)) (inner := []) (ok := fun b => W.heap.size ≤ b) (okp := fun _ => False) (by go_simp; try rfl) (Reps.none _ _) (fun _ hk => hk.elim) HBX.out.size (Below.refl _ _) (Nat.le_refl _) (by decide) ?_); go_must (intro v1 w1 hN hb hg1 hv; obtain ⟨A1, c1, rfl⟩ := Kd.N_slice hN; have HN1 := Aside0.mk hN; have HB1 := Aside0.mk hb; clear x0 x1 x2 x3 x4 xf hN hb hg1 hv))
  obtain ⟨wB, hwB⟩ : ∃ wB, wB = W.alloc (needB c (.slice Ak n ck) aR aW (.slice Ac m cc)) := ⟨_, rfl⟩
  rw [← hwB] at HN1 HB1 HBX HX
  go_loopw [3, 4] (fun v3 v4 wr => ∃ (j : Nat) (A3 : Option Addr) (m3 c3 : Nat), j ≤ n ∧ v4 = .int .i64 j ∧ v3 = .slice A3 m3 c3 ∧ Aside0 (Kd.N Kd.string 9 wr wB.heap.size (fun b => W.heap.size ≤ b) (.slice A3 m3 c3) (keysOf (·.w) (ks.take j))) ∧ Aside0 (Below wB.heap.size wB wr)) (fun _ v4 _ => n - (intOf v4).toNat)
  case atStart => exact ⟨0, A1, _, c1, Nat.zero_le _, rfl, rfl, HN1, HB1⟩
  case round =>
    obtain ⟨j, A3, m3, c3, hjn, rfl, rfl, HN, HB⟩ := hrel
    obtain ⟨x0, x1, x2, x3, x4, xf⟩ := cells5' (blk_below HX.out HB.out)
    by_cases hj : j < n
    · obtain ⟨ad, hl, rfl, d0, d1, d2⟩ := use_cell (Kd.F_below HF.out (step2 HBX.out HB.out)) j hj
      have i0 : (j : Int) < (n : Int) := by omega
      have i1 : (0 : Int) ≤ (j : Int) := by omega
      obtain ⟨u, hu⟩ : ∃ u, u = ks[j] := ⟨_, rfl⟩
      have HY := Aside0.mk (keysOf_yes (·.w) ks j hl)
      have HNo := Aside0.mk (keysOf_no (·.w) ks j hl)
      rw [← hu] at d0 d1 d2 HY HNo
      clear hu
      obtain ⟨uk, ur, uw⟩ := u
      simp only at d0 d1 d2 HY HNo
      have HLL : Aside0 ((keysOf (·.w) (ks.take j)).length ≤ j) := ⟨by
        have h1 := keysOf_len (·.w) (ks.take j)
        have h2 : (ks.take j).length ≤ j := List.length_take_le j ks
        omega⟩
      cases uw
      · go_wp2_with fail
        go_roundw
        case rel => exact ⟨j + 1, A3, m3, c3, by omega, by go_num, rfl, ⟨by rw [HNo.out rfl]; exact HN.out⟩, HB⟩
        case measure => simp [intOf]; omega
      · go_wp2_with ((with_reducible refine gate_builtin (b := .append) (xs := #[.tmp 19, .tmp 26]) rfl ?_); at_builtin; go_must (refine Kd.N_append Kd.string (w0 := wB) wB.heap.size rfl (.tmp 19) (.tmp 26) 35 9 (.string ⟨#[]⟩) 16 rfl Try.underlying35 info9 rfl (by decide) (by decide) (.slice A3 m3 c3) (keysOf (·.w) (ks.take j)) uk [.string uk] (fun b => W.heap.size ≤ b) (fun _ => False) (by rfl) (by rfl) (fun W' _ => rfl) (fun _ h => h.elim) (fun b hb => Nat.le_trans (step2 HBX.out HB.out).size hb) HN.out HB.out HB.out.size (by have h1 := HLL.out; omega) ?_); go_must (intro v6 w6 hN6 hb6 hg6 _; obtain ⟨A6, c6, rfl⟩ := Kd.N_slice hN6; obtain ⟨m6, hm6⟩ : ∃ m6, m6 = (keysOf (·.w) (ks.take j) ++ [uk]).length := ⟨_, rfl⟩; rw [← hm6] at hN6 ⊢; have HN6 := Aside0.mk hN6; have HB6 := Aside0.mk hb6; clear hN6 hb6 hg6 hm6))
        go_roundw
        case rel => exact ⟨j + 1, A6, m6, c6, by omega, by go_num, rfl, ⟨by rw [HY.out rfl]; exact HN6.out⟩, HB6⟩
        case measure => simp [intOf]; omega
    · have hjl : ks.take j = ks := List.take_of_length_le (by have := HL.out; omega)
      rw [hjl] at HN
      have i0 : ¬ (j : Int) < (n : Int) := by omega
      have hm := (Kd.N_reads' HN.out).1
      obtain ⟨A4, c4, he⟩ := Kd.N_slice HN.out
      injection he with e1 e2 e3
      subst e1
      subst e2
      subst e3
      generalize hq : keysOf (·.w) ks = q at *
      go_wp2_with fail
      refine bodyPost_ret (v := .slice A3 q.length c3) (by simp [results, Try.results33, go_sem]) rfl ?_
      unfold RowSaid
      exact ⟨A3, c3, rfl, (Kd.N_reads' HN.out).2.1, ⟨Kd.N_F HN.out⟩, ⟨step2 HBX.out HB.out⟩⟩
end Go.Proofs.Ytflnpgfddedahaa.U
