/- The reference's Queue: what it comes to, in whatever memory. -/
import Derived.Test.YtbjhpmifjiibaaaT8
namespace Go.Proofs.Ytbjhpmifjiibaaa.T
open Go.RowKit Go.Maps Go.Proofs.YtbjhpmifjiibaaaW.PrintWords
set_option linter.unusedVariables false
set_option linter.unusedSimpArgs false

theorem own_ne {k b n c : Nat} (h : k ≠ b) : some k ≠ (Value.slice (some ⟨b, 0, none⟩) n c).ownBlock := fun e => h (Option.some.inj e)
theorem refQueue_off (bad : Bool) (Aq : Option Addr) (nq cq : Nat) (As : Option Addr) (ns cs : Nat) (Aa : Option Addr) (na ca : Nat) (w : World) :
    Calls Try.prog 18 #[tx false bad Aq nq cq As ns cs, .slice Aa na ca] w fun e w' => e = .returned (.tuple #[tx false bad Aq nq cq As ns cs, .bool false]) ∧ Below w.heap.size w w' := by
  go_enter Try.func18, Try.ntmps18
  go_wp2
  refine bodyPost_ret (v := .tuple #[tx false bad Aq nq cq As ns cs, .bool false]) (by simp [results, Try.results18, go_sem]) rfl ⟨rfl, ?_⟩
  exact below_alloc (below_alloc (Below.refl _ _) _) _

set_option maxHeartbeats 1000000 in
theorem refQueue_on (bad : Bool) (Aq : Option Addr) (nq cq : Nat) (As : Option Addr) (ns cs : Nat) (Aa : Option Addr) (na ca : Nat) (okq oka : Nat → Prop) (qs : List (List ByteArray)) (xs : List ByteArray) (w : World)
    (hq : Kd.F kRows w okq Aq nq qs) (ha : Kd.F Kd.string w oka Aa na xs) (hnq : (nq + 1) * 24 ≤ 140737488355328) (hna : na * 16 ≤ 140737488355328) :
    Calls Try.prog 18 #[tx true bad Aq nq cq As ns cs, .slice Aa na ca] w fun e w' => 
      ∃ A' c', e = .returned (.tuple #[tx true bad A' (nq + 1) c' As ns cs, .bool true]) ∧ Aside0 (Kd.F kRows w' (fun k => okq k ∨ w.heap.size ≤ k) A' (nq + 1) (qs ++ [xs])) ∧ nq + 1 ≤ c' ∧ Below w.heap.size w w' := by
  have HQ := Aside0.mk hq
  have HA := Aside0.mk ha
  have HNQ := Aside0.mk (Kd.F_len hq)
  have HNA := Aside0.mk (Kd.F_len ha)
  clear hq ha
  go_enter Try.func18, Try.ntmps18
  go_upto_region 4 with fail
  have X1 := Aside0.mk (show (((w.alloc (.cells #[.bool true, .bool bad, .slice Aq nq cq, .slice As ns cs] 26)).alloc (.cells #[.bool false, .bool false, .slice none 0 0, .slice none 0 0] 26)).alloc (.cells #[.bool true, .bool bad, .slice Aq nq cq, .slice As ns cs] 26)).heap[w.heap.size + 1]? = some (.cells #[.bool false, .bool false, .slice none 0 0, .slice none 0 0] 26 (0, 0)) from by have h := blk_alloc (blk_new (w.alloc (.cells #[.bool true, .bool bad, .slice Aq nq cq, .slice As ns cs] 26)) (.cells #[.bool false, .bool false, .slice none 0 0, .slice none 0 0] 26)) (.cells #[.bool true, .bool bad, .slice Aq nq cq, .slice As ns cs] 26); simpa using h)
  have X2 := Aside0.mk (show (((w.alloc (.cells #[.bool true, .bool bad, .slice Aq nq cq, .slice As ns cs] 26)).alloc (.cells #[.bool false, .bool false, .slice none 0 0, .slice none 0 0] 26)).alloc (.cells #[.bool true, .bool bad, .slice Aq nq cq, .slice As ns cs] 26)).heap[w.heap.size + 1 + 1]? = some (.cells #[.bool true, .bool bad, .slice Aq nq cq, .slice As ns cs] 26 (0, 0)) from by have h := blk_new ((w.alloc (.cells #[.bool true, .bool bad, .slice Aq nq cq, .slice As ns cs] 26)).alloc (.cells #[.bool false, .bool false, .slice none 0 0, .slice none 0 0] 26)) (.cells #[.bool true, .bool bad, .slice Aq nq cq, .slice As ns cs] 26); simpa using h)
  have X0 := Aside0.mk (blk_alloc (blk_alloc (blk_new w (.cells #[.bool true, .bool bad, .slice Aq nq cq, .slice As ns cs] 26)) (.cells #[.bool false, .bool false, .slice none 0 0, .slice none 0 0] 26)) (.cells #[.bool true, .bool bad, .slice Aq nq cq, .slice As ns cs] 26))
  have HB0 := Aside0.mk (below_alloc (below_alloc (below_alloc (Below.refl w.heap.size w) (.cells #[.bool true, .bool bad, .slice Aq nq cq, .slice As ns cs] 26)) (.cells #[.bool false, .bool false, .slice none 0 0, .slice none 0 0] 26)) (.cells #[.bool true, .bool bad, .slice Aq nq cq, .slice As ns cs] 26))
  generalize ((w.alloc (.cells #[.bool true, .bool bad, .slice Aq nq cq, .slice As ns cs] 26)).alloc (.cells #[.bool false, .bool false, .slice none 0 0, .slice none 0 0] 26)).alloc (.cells #[.bool true, .bool bad, .slice Aq nq cq, .slice As ns cs] 26) = wd at *
  have hzd : w.heap.size + 1 + 1 < wd.heap.size := blk_lt X2.out
  obtain ⟨p0, p1, p2, p3, pf⟩ := cells4 (blk_alloc X0.out (.cells #[] 30))
  go_wp2_with (first | ((with_reducible refine gate_builtin (b := .append) (xs := #[.tmp 12, .tmp 14]) rfl ?_); at_builtin; go_must (refine Kd.N_append_rows kRows (w0 := wd) wd.heap.size rfl (.tmp 12) (.tmp 14) 22 30 (.slice none 0 0) 24 rfl Try.underlying22 info30 rfl (by decide) (by decide) (.slice (some ⟨wd.heap.size, 0, none⟩) 0 0) [] qs Aq nq cq (fun k => (okq k ∧ k < w.heap.size) ∨ wd.heap.size ≤ k) (fun k => okq k ∧ k < w.heap.size) ?hs ?hx ?hN ?hF ?hokp ?hfresh ?hB ?hbase ?hl ?_); (case hs => rfl); (case hx => rfl); (case hN => exact N_empty kRows (blk_new wd _) (Nat.le_refl _) (.inr (Nat.le_refl _))); (case hF => exact Kd.F_old HQ.out (below_alloc HB0.out _)); (case hokp => exact fun k hk => ⟨.inl hk, own_ne (by have := hk.2; omega)⟩); (case hfresh => exact fun k hk => .inr (Nat.le_trans (below_alloc (Below.refl wd.heap.size wd) _).size hk)); (case hB => exact below_alloc (Below.refl _ _) _); (case hbase => exact (below_alloc (Below.refl wd.heap.size wd) _).size); (case hl => simp; omega); intro v1 w1 hN1 hb1 hg1 _; rw [List.nil_append] at hN1; obtain ⟨A1, c1, rfl⟩ := Kd.N_slice hN1; have X1' := Aside0.mk (blk_grown (blk_alloc X1.out (.cells #[] 30)) hg1 (own_ne (by omega))); have X2' := Aside0.mk (blk_grown (blk_alloc X2.out (.cells #[] 30)) hg1 (own_ne (by omega))); have HN1 := Aside0.mk hN1; have HB1 := Aside0.mk (step2 HB0.out hb1); have HD1 := Aside0.mk hb1; have hz1 : w.heap.size + 1 + 1 < w1.heap.size := blk_lt X2'.out; clear hN1 hb1 hg1) | ((with_reducible refine gate_builtin (b := .append) (xs := #[.tmp 16, .tmp 17]) rfl ?_); at_builtin; go_must (refine Kd.N_append_rows Kd.string (w0 := w1) w1.heap.size rfl (.tmp 16) (.tmp 17) 30 9 (.string ⟨#[]⟩) 16 rfl Try.underlying30 info9 rfl (by decide) (by decide) (.slice (some ⟨w1.heap.size, 0, none⟩) 0 0) [] xs Aa na ca (fun k => oka k ∨ w1.heap.size ≤ k) (fun k => oka k ∧ k < w.heap.size) ?hs ?hx ?hN ?hF ?hokp ?hfresh ?hB ?hbase ?hl ?_); (case hs => rfl); (case hx => rfl); (case hN => exact N_empty Kd.string (blk_new w1 _) (Nat.le_refl _) (.inr (Nat.le_refl _))); (case hF => exact Kd.F_old HA.out (below_alloc HB1.out _)); (case hokp => exact fun k hk => ⟨.inl hk.1, own_ne (by have := hk.2; omega)⟩); (case hfresh => exact fun k hk => .inr (Nat.le_trans (below_alloc (Below.refl _ _) _).size hk)); (case hB => exact below_alloc (Below.refl _ _) _); (case hbase => exact (below_alloc (Below.refl w1.heap.size w1) _).size); (case hl => simp; omega); intro v2 w2 hN2 hb2 _ _; rw [List.nil_append] at hN2; obtain ⟨A2, c2, rfl⟩ := Kd.N_slice hN2; have HN2 := Aside0.mk (N_flat flat_string hN2 (Kd.N_base hN2)); have HB2 := Aside0.mk hb2; clear hN2 hb2) | ((with_reducible refine gate_builtin (b := .append) (xs := #[.tmp 15, .tmp 19]) rfl ?_); at_builtin; go_must (refine Kd.N_append kRows (w0 := wd) wd.heap.size rfl (.tmp 15) (.tmp 19) 22 30 (.slice none 0 0) 24 rfl Try.underlying22 info30 rfl (by decide) (by decide) (.slice A1 qs.length c1) qs xs [.slice A2 xs.length c2] (fun k => (okq k ∧ k < w.heap.size) ∨ wd.heap.size ≤ k) (fun k => w1.heap.size ≤ k) ?hs ?hx ?x1 ?x2 ?x3 ?x4 ?x5 ?x6 ?x7 ?_); (case hs => rfl); (case hx => rfl); (case x1 => exact Kd.FK_slice_mk (Kd.N_reads' HN2.out).2.1 (Kd.N_F HN2.out)); (case x2 => exact fun k hk => ⟨.inr (Nat.le_trans HD1.out.size hk), fun e => by have := Kd.N_lt HN1.out k e.symm; omega⟩); (case x3 => exact fun k hk => .inr (Nat.le_trans (step2 HD1.out HB2.out).size hk)); (case x4 => exact Kd.N_below HN1.out HB2.out); (case x5 => exact step2 HD1.out HB2.out); (case x6 => exact (step2 HD1.out HB2.out).size); (case x7 => have := HNQ.out; simp; omega); intro v3 w3 hN3 hb3 hg3 _; obtain ⟨A3, c3, rfl⟩ := Kd.N_slice hN3; have X13 := blk_grown (blk_below X1'.out HB2.out) hg3 (ne_some (Kd.N_base HN1.out) (by omega)); have X23 := blk_grown (blk_below X2'.out HB2.out) hg3 (ne_some (Kd.N_base HN1.out) (by omega)); obtain ⟨q0, q1, q2, q3, qf⟩ := cells4 X13; obtain ⟨r0, r1, r2, r3, rf⟩ := cells4 X23; have HN3 := Aside0.mk hN3; have HB3 := Aside0.mk (step2 HB0.out hb3); have hz3 : w.heap.size + 1 + 1 < w3.heap.size := blk_lt X23; clear hN3 hb3 hg3 X13 X23))
  refine bodyPost_ret (v := .tuple #[tx true bad A3 (qs.length + 1) c3 As ns cs, .bool true]) (by simp [results, Try.results18, go_sem, q0, q1, q2, q3, r0, r1, r2, r3]) rfl ⟨A3, c3, ?_, ⟨?_⟩, ?_, ?_⟩
  · rw [HNQ.out]
  · have hF := Kd.N_F HN3.out
    have h5 := four_F (Kd.F_far (p := ⟨w.heap.size + 1 + 1, 2, none⟩) hF (fun k hk => by show k ≠ w.heap.size + 1 + 1; omega) (.slice A3 (qs.length + 1) c3)) (g := w.heap.size + 1) (fun k hk => by omega) (.bool true) (.bool bad) (.slice A3 (qs.length + 1) c3) (.slice As ns cs)
    have hl : (qs ++ [xs]).length = nq + 1 := by rw [List.length_append, HNQ.out]; rfl
    rw [← hl]
    exact Kd.F_mono h5 (fun k hk => hk.elim (fun h => .inl h.1) (fun h => .inr (by omega)))
  · have := (Kd.N_reads' HN3.out).2.1
    rw [List.length_append, HNQ.out] at this
    exact this
  · exact four_B (HB3.out.setCell (p := ⟨w.heap.size + 1 + 1, 2, none⟩) (by show w.heap.size ≤ w.heap.size + 1 + 1; omega) _) (g := w.heap.size + 1) (by omega) _ _ _ _
end Go.Proofs.Ytbjhpmifjiibaaa.T
