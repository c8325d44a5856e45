/- tx.Queue: what it comes to, in whatever memory. -/
import Derived.Test.YtbjhpmifjiibaaaT3
namespace Go.Proofs.Ytbjhpmifjiibaaa.T
open Go.RowKit Go.Maps Go.Proofs.YtbjhpmifjiibaaaW.PrintWords
set_option linter.unusedVariables false
set_option linter.unusedSimpArgs false

set_option maxHeartbeats 1000000 in
theorem queue_on (bad : Bool) (Aq : Option Addr) (nq cq : Nat) (As : Option Addr) (ns cs : Nat) (Aa : Option Addr) (na ca : Nat) (okq oka : Nat → Prop) (qs : List (List ByteArray)) (xs : List ByteArray) (w : World)
    (hq : Kd.F kRows w okq Aq nq qs) (ha : Kd.F Kd.string w oka Aa na xs) (hnq : (nq + 1) * 24 ≤ 140737488355328) (hna : na * 16 ≤ 140737488355328) :
    Calls Try.prog 9 #[tx true bad Aq nq cq As ns cs, .slice Aa na ca] w fun e w' => 
      ∃ A' c', e = .returned (.tuple #[tx true bad A' (nq + 1) c' As ns cs, .bool true]) ∧ Aside0 (Kd.F kRows w' (fun k => okq k ∨ w.heap.size ≤ k) A' (nq + 1) (qs ++ [xs])) ∧ nq + 1 ≤ c' ∧ Below w.heap.size w w' := by
  have HQ := Aside0.mk hq
  have HA := Aside0.mk ha
  have HNQ := Aside0.mk (Kd.F_len hq)
  clear hq ha
  go_enter Try.func9, Try.ntmps9
  go_wp2_with (first | (go_at_call 23; refine (clone_rows Aq nq cq (fun k => okq k ∧ k < w.heap.size) qs _ (Kd.F_old HQ.out (below_alloc (below_alloc (Below.refl _ _) _) _)) (by omega)).mono ?_; rintro e w1 ⟨A1, c1, rfl, hN1, hb1⟩; have hz1 : w.heap.size + 1 < w1.heap.size := Nat.lt_of_lt_of_le (by simp) hb1.size; have X1 := Aside0.mk (blk_below (blk_alloc (blk_new w _) _) hb1); have Y1 := Aside0.mk (blk_below (blk_new (w.alloc _) _) hb1); have HB1 := Aside0.mk (step2 (below_alloc (below_alloc (Below.refl _ _) _) _) hb1); clear hb1) | (go_at_call 24; refine (clone_texts Aa na ca oka xs _ (Kd.F_below HA.out HB1.out) hna).mono ?_; rintro e w2 ⟨A2, c2, rfl, hN2, hb2⟩; have hz2 : w.heap.size + 1 < w2.heap.size := Nat.lt_of_lt_of_le hz1 hb2.size; have HB2 := Aside0.mk hb2; clear hb2) | ((with_reducible refine gate_builtin (b := .append) (xs := #[.tmp 12, .tmp 15]) rfl ?_); at_builtin; go_must (refine Kd.N_append kRows (w0 := w) w.heap.size rfl (.tmp 12) (.tmp 15) 22 30 (.slice none 0 0) 24 rfl Try.underlying22 info30 rfl (by decide) (by decide) (.slice A1 qs.length c1) qs xs [.slice A2 xs.length c2] (fun k => (okq k ∧ k < w.heap.size) ∨ w.heap.size + 2 ≤ k) (fun k => w1.heap.size ≤ k) rfl rfl ?x1 ?x2 ?x3 ?x4 ?x5 ?x6 ?x7 ?_); (case x1 => exact Kd.FK_slice_mk (Kd.N_reads' hN2.out).2.1 (Kd.N_F hN2.out)); (case x2 => exact fun k hk => ⟨.inr (Nat.le_trans hz1 hk), fun e => by have := Kd.N_lt hN1.out k e.symm; omega⟩); (case x3 => exact fun k hk => .inr (Nat.le_trans hz2 hk)); (case x4 => exact Kd.N_mono (Kd.N_lower (Kd.N_below hN1.out HB2.out) (by simp; omega)) (fun k hk => hk.elim (fun h => .inl h) (fun h => .inr (by simp at h; omega)))); (case x5 => exact step2 HB1.out HB2.out); (case x6 => exact Nat.le_trans HB1.out.size HB2.out.size); (case x7 => have := HNQ.out; omega); intro v3 w3 hN3 hb3 hg3 _; obtain ⟨A3, c3, rfl⟩ := Kd.N_slice hN3; have X3 := blk_grown (blk_below X1.out HB2.out) hg3 (ne_some (Kd.N_base hN1.out) (by simp <;> omega)); have Y3 := blk_grown (blk_below Y1.out HB2.out) hg3 (ne_some (Kd.N_base hN1.out) (by simp <;> omega)); obtain ⟨p0, p1, p2, p3, pf⟩ := cells4 X3; obtain ⟨q0, q1, q2, q3, qf⟩ := cells4 Y3; have hz3 : w.heap.size + 1 < w3.heap.size := Nat.lt_of_lt_of_le hz2 hg3.size; have HN3 := Aside0.mk hN3; have HB3 := Aside0.mk hb3; simp at q0 q1 q2 q3 qf; clear hN3 hb3 hg3 X3 Y3))
  refine bodyPost_ret (v := .tuple #[tx true bad A3 (qs.length + 1) c3 As ns cs, .bool true]) (by simp [results, Try.results9, go_sem, p0, p1, p2, p3, q0, q1, q2, q3]) rfl ⟨A3, c3, ?_, ⟨?_⟩, ?_, ?_⟩
  · rw [HNQ.out]
  · have hF := Kd.N_F HN3.out
    have h5 := Kd.F_far (p := ⟨w.heap.size + 1, 3, none⟩) (Kd.F_far (p := ⟨w.heap.size + 1, 2, none⟩) (Kd.F_far (p := ⟨w.heap.size + 1, 1, none⟩) (Kd.F_far (p := ⟨w.heap.size + 1, 0, none⟩) (Kd.F_far (p := ⟨w.heap.size, 2, none⟩) hF (fun k hk => by show k ≠ w.heap.size; omega) (.slice A3 (qs.length + 1) c3)) (fun k hk => by show k ≠ w.heap.size + 1; omega) (.bool true)) (fun k hk => by show k ≠ w.heap.size + 1; omega) (.bool bad)) (fun k hk => by show k ≠ w.heap.size + 1; omega) (.slice A3 (qs.length + 1) c3)) (fun k hk => by show k ≠ w.heap.size + 1; omega) (.slice As ns cs)
    have hl : (qs ++ [xs]).length = nq + 1 := by rw [List.length_append, HNQ.out]; rfl
    rw [← hl]
    exact Kd.F_mono h5 (fun k hk => hk.elim (fun h => .inl h.1) (fun h => .inr (by omega)))
  · have := (Kd.N_reads' HN3.out).2.1
    rw [List.length_append, HNQ.out] at this
    exact this
  · exact (((((HB3.out.setCell (Nat.le_refl _) _).setCell (Nat.le_succ _) _).setCell (Nat.le_succ _) _).setCell (Nat.le_succ _) _).setCell (Nat.le_succ _) _)

theorem queue_off (bad : Bool) (Aq : Option Addr) (nq cq : Nat) (As : Option Addr) (ns cs : Nat) (Aa : Option Addr) (na ca : Nat) (w : World) :
    Calls Try.prog 9 #[tx false bad Aq nq cq As ns cs, .slice Aa na ca] w fun e w' => e = .returned (.tuple #[tx false bad Aq nq cq As ns cs, .bool false]) ∧ Below w.heap.size w w' := by
  go_enter Try.func9, Try.ntmps9
  go_wp2
  refine bodyPost_ret (v := .tuple #[tx false bad Aq nq cq As ns cs, .bool false]) (by simp [results, Try.results9, go_sem]) rfl ⟨rfl, ?_⟩
  exact below_alloc (below_alloc (Below.refl _ _) _) _

end Go.Proofs.Ytbjhpmifjiibaaa.T
