/- tx.Watch: what it comes to, in whatever memory. -/
import Derived.Test.YtbjhpmifjiibaaaT8
import Derived.Deep.RegionHeld3
import Derived.Deep.RegionLaw
namespace Go.Proofs.Ytbjhpmifjiibaaa.T
open Go.RowKit Go.Maps Go.Proofs.YtbjhpmifjiibaaaW.PrintWords
set_option linter.unusedVariables false
set_option linter.unusedSimpArgs false

set_option maxHeartbeats 1000000 in
theorem watch_on (bad : Bool) (Aq : Option Addr) (nq cq : Nat) (As : Option Addr) (ns cs : Nat) (key : ByteArray) (n : Int) (w : World) :
    Calls Try.prog 12 #[tx true bad Aq nq cq As ns cs, .string key, .int .i64 n] w fun e w' => e = .returned (.tuple #[tx true bad Aq nq cq As ns cs, .bool false]) ∧ Below w.heap.size w w' := by
  have hmf : ∀ (fn : Fn) (first cap : Array Value) (w : World), (Instr.makeFunc fn first cap).run Try.prog w = .ok (.func fn first cap) w := fun _ _ _ _ => rfl
  go_enter Try.func12, Try.ntmps12
  go_upto_region 4 with fail
  go_region
  all_goals
    go_wp2_with fail
    refine bodyPost_ret (v := .tuple #[tx true bad Aq nq cq As ns cs, .bool false]) (by simp [results, Try.results12, go_sem]) rfl ⟨rfl, ?_⟩
    exact pw_below_drewN (below_alloc (below_alloc (below_alloc (Below.refl _ _) _) _) _) 1

abbrev watched (w : World) (cells : Array Value) (key : ByteArray) : World := ((w.alloc (.cells cells 26)).alloc (.cells #[.string key] 9)).alloc (.cells #[.bool false, .bool false, .slice none 0 0, .slice none 0 0] 26)
theorem watch_start (w : World) (cells : Array Value) (key : ByteArray) : (watched w cells key).heap[w.heap.size]? = some (.cells cells 26 (0, 0)) ∧ (watched w cells key).cell? ⟨w.heap.size + 1, 0, none⟩ = some (.string key) ∧ (watched w cells key).heap[w.heap.size + 2]? = some (.cells #[.bool false, .bool false, .slice none 0 0, .slice none 0 0] 26 (0, 0)) := by
  refine ⟨blk_alloc (blk_alloc (blk_new w _) _) _, ?_, ?_⟩
  · have h := blk_alloc (blk_new (w.alloc (.cells cells 26)) (.cells #[.string key] 9)) (.cells #[.bool false, .bool false, .slice none 0 0, .slice none 0 0] 26)
    simpa using (blk_cell h 0).trans rfl
  · have h := blk_new ((w.alloc (.cells cells 26)).alloc (.cells #[.string key] 9)) (.cells #[.bool false, .bool false, .slice none 0 0, .slice none 0 0] 26)
    simpa using h

set_option maxHeartbeats 1000000 in
theorem watch_again (bad : Bool) (Aq : Option Addr) (nq cq : Nat) (As : Option Addr) (ns cs : Nat) (oks : Nat → Prop) (xs : List SeenD) (key : ByteArray) (n : Int) (w : World)
    (hs : Kd.F kSeen w oks As ns xs) (hk : there xs key = true) :
    Calls Try.prog 12 #[tx false bad Aq nq cq As ns cs, .string key, .int .i64 n] w fun e w' => e = .returned (.tuple #[tx false bad Aq nq cq As ns cs, .bool true]) ∧ Below w.heap.size w w' := by
  have hmf : ∀ (fn : Fn) (first cap : Array Value) (w : World), (Instr.makeFunc fn first cap).run Try.prog w = .ok (.func fn first cap) w := fun _ _ _ _ => rfl
  have HF := Aside0.mk hs
  have HK := Aside0.mk hk
  clear hs hk
  have Z0 := Aside0.mk (watch_start w (tx false bad Aq nq cq As ns cs).cells key)
  go_enter Try.func12, Try.ntmps12
  go_upto_region 4 with (go_at_call 26; go_must (refine (contains25 key (w.heap.size + 1) As ns cs oks xs _ (Kd.F_below HF.out (below_alloc (below_alloc (below_alloc (Below.refl _ _) _) _) _)) ?hk).mono ?_); (case hk => exact Z0.out.2.1); rintro e w1 ⟨rfl, hb1⟩; rw [show (xs.any fun x : SeenD => x.key.toList == key.toList) = true from HK.out]; have X1 := Aside0.mk (blk_below Z0.out.1 hb1); have Y1 := Aside0.mk (blk_below Z0.out.2.2 hb1); have HB1 := Aside0.mk (step2 (below_alloc (below_alloc (below_alloc (Below.refl _ _) _) _) _) hb1); clear hb1)
  obtain ⟨p0, p1, p2, p3, pf⟩ := cells4 X1.out
  obtain ⟨q0, q1, q2, q3, qf⟩ := cells4 Y1.out
  go_region
  go_wp2_with fail
  refine bodyPost_ret (v := .tuple #[tx false bad Aq nq cq As ns cs, .bool true]) (by simp [results, Try.results12, go_sem, q0, q1, q2, q3]) rfl ⟨rfl, ?_⟩
  exact pw_below_drewN (four_B HB1.out (g := w.heap.size + 1 + 1) (by omega) _ _ _ _) 1

set_option maxHeartbeats 1000000 in
theorem watch_more (bad : Bool) (Aq : Option Addr) (nq cq : Nat) (As : Option Addr) (ns cs : Nat) (oks : Nat → Prop) (xs : List SeenD) (key : ByteArray) (n : Int) (w : World)
    (hs : Kd.F kSeen w oks As ns xs) (hk : there xs key = false) (hn : (ns + 1) * 24 ≤ 140737488355328) :
    Calls Try.prog 12 #[tx false bad Aq nq cq As ns cs, .string key, .int .i64 n] w fun e w' => ∃ A' c', e = .returned (.tuple #[tx false bad Aq nq cq A' (ns + 1) c', .bool true]) ∧ Aside0 (Kd.F kSeen w' (fun k => w.heap.size ≤ k) A' (ns + 1) (xs ++ [⟨key, n⟩])) ∧ ns + 1 ≤ c' ∧ Below w.heap.size w w' := by
  have hmf : ∀ (fn : Fn) (first cap : Array Value) (w : World), (Instr.makeFunc fn first cap).run Try.prog w = .ok (.func fn first cap) w := fun _ _ _ _ => rfl
  have HF := Aside0.mk hs
  have HK := Aside0.mk hk
  have HL := Aside0.mk (Kd.F_len hs)
  clear hs hk
  have Z0 := Aside0.mk (watch_start w (tx false bad Aq nq cq As ns cs).cells key)
  go_enter Try.func12, Try.ntmps12
  go_upto_region 3 with (go_at_call 26; go_must (refine (contains25 key (w.heap.size + 1) As ns cs oks xs _ (Kd.F_below HF.out (below_alloc (below_alloc (below_alloc (Below.refl _ _) _) _) _)) ?hk).mono ?_); (case hk => exact Z0.out.2.1); rintro e w1 ⟨rfl, hb1⟩; rw [show (xs.any fun x : SeenD => x.key.toList == key.toList) = false from HK.out]; have X1 := Aside0.mk (blk_below Z0.out.1 hb1); have T1 := Aside0.mk (pw_cell_below hb1 Z0.out.2.1); have Y1 := Aside0.mk (blk_below Z0.out.2.2 hb1); have HB1 := Aside0.mk (step2 (below_alloc (below_alloc (below_alloc (Below.refl _ _) _) _) _) hb1); clear hb1)
  have hz1 : w.heap.size + 1 + 1 < w1.heap.size := blk_lt Y1.out
  clear Z0
  generalize hg : w.heap.size = g at *
  go_cut [] (fun W => ∃ (A' : Option Addr) (c' : Nat), Aside0 (W.heap[g]? = some (.cells #[.bool false, .bool bad, .slice Aq nq cq, .slice A' (ns + 1) c'] 26 (0, 0))) ∧ Aside0 (W.heap[g + 1 + 1]? = some (.cells #[.bool false, .bool false, .slice none 0 0, .slice none 0 0] 26 (0, 0))) ∧ Aside0 (Kd.F kSeen W (fun k => g + 1 + 1 < k) A' (ns + 1) (xs ++ [⟨key, n⟩])) ∧ ns + 1 ≤ c' ∧ Aside0 (Below g w W))
  case first =>
    have FW : ∀ W, Below w1.heap.size w1 W → Kd.F kSeen W (fun k => oks k ∧ k < w.heap.size) As ns xs := fun W hb => Kd.F_old HF.out (by have h := HB1.out; rw [← hg] at h; exact step2 h hb)
    have KS : ∀ W, Below w1.heap.size w1 W → W.cell? ⟨g, 3, none⟩ = some (.slice As ns cs) ∧ W.cell? ⟨g + 1, 0, none⟩ = some (.string key) ∧ W.frozen? ⟨g, 3, none⟩ = false := fun W hb => by
      obtain ⟨p0, p1, p2, p3, pf⟩ := cells4 (blk_below X1.out hb)
      exact ⟨p3, pw_cell_below hb T1.out, pf 3⟩
    have BX : ∀ (W : World) (b : Nat), W.heap[b]? = some (.cells #[.string key, .int .i64 n] 36 (0, 0)) → Kd.F kSeen W (fun k => k = b) (some ⟨b, 0, none⟩) 1 [⟨key, n⟩] := fun W b hw => seen_block (xs := [⟨key, n⟩]) hw (by simp) (fun j p hj => by
      match j, hj with
      | 0, hj => injection hj with hj; subst hj; exact ⟨rfl, rfl⟩)
    have hn' : ns * 24 ≤ 140737488355328 := by omega
    have hn2 : (xs.length + 1) * 24 ≤ 140737488355328 := by rw [HL.out]; exact hn
    have HBW : Below w1.heap.size w1 w1.drew := (Below.refl _ _).drew
    have FIN : ∀ (W : World) (A3 : Option Addr) (c3 : Nat), Kd.N kSeen 36 W w1.heap.size (fun k => w1.heap.size ≤ k) (.slice A3 (xs ++ [(⟨key, n⟩ : SeenD)]).length c3) (xs ++ [(⟨key, n⟩ : SeenD)]) → Below w1.heap.size w1 W → ∃ (A' : Option Addr) (c' : Nat), Aside0 ((W.setCell ⟨g, 3, none⟩ (.slice A3 (xs.length + 1) c3)).heap[g]? = some (.cells #[.bool false, .bool bad, .slice Aq nq cq, .slice A' (ns + 1) c'] 26 (0, 0))) ∧ Aside0 ((W.setCell ⟨g, 3, none⟩ (.slice A3 (xs.length + 1) c3)).heap[g + 1 + 1]? = some (.cells #[.bool false, .bool false, .slice none 0 0, .slice none 0 0] 26 (0, 0))) ∧ Aside0 (Kd.F kSeen (W.setCell ⟨g, 3, none⟩ (.slice A3 (xs.length + 1) c3)) (fun k => g + 1 + 1 < k) A' (ns + 1) (xs ++ [(⟨key, n⟩ : SeenD)])) ∧ ns + 1 ≤ c' ∧ Aside0 (Below g w (W.setCell ⟨g, 3, none⟩ (.slice A3 (xs.length + 1) c3))) := fun W A3 c3 hN hb => by
      have hl : (xs ++ [(⟨key, n⟩ : SeenD)]).length = ns + 1 := by rw [List.length_append, HL.out]; rfl
      have hF := Kd.N_F hN
      have hr := (Kd.N_reads' hN).2.1
      rw [hl] at hF hr
      rw [HL.out]
      have hB0 := HB1.out
      refine ⟨A3, c3, ⟨(blk_set (blk_below X1.out hb) 3 _).trans rfl⟩, ⟨blk_far (blk_below Y1.out hb) (by show g + 2 ≠ g; omega) _⟩, ⟨Kd.F_mono (Kd.F_far (p := ⟨g, 3, none⟩) hF (fun k hk => by show k ≠ g; omega) _) (fun k hk => by omega)⟩, hr, ⟨?_⟩⟩
      rw [← hg] at hB0 ⊢
      exact (step2 hB0 hb).setCell (p := ⟨w.heap.size, 3, none⟩) (Nat.le_refl _) _
    obtain ⟨s3, s4, sf⟩ := KS _ (Below.refl _ _)
    obtain ⟨s5, s6, sg⟩ := KS _ (below_alloc (Below.refl _ _) (.cells #[.string key, .int .i64 n] 36))
    clear HF HK HL X1 Y1 T1 HB1
    go_region_law
      (first | (go_simp; go_at_call 27; go_loud (refine (clone_seen As ns cs _ xs _ (FW _ ?hb) hn').mono ?_); (case hb => first | exact HBW | exact below_alloc HBW _); rintro e w2 ⟨A2, c2, rfl, HN2, hb2⟩; (first | have HBW := step2 HBW hb2 | have HBW := step2 (below_alloc HBW _) hb2); obtain ⟨s3, s4, sf⟩ := KS _ HBW) | ((with_reducible refine gate_step (N := 27) rfl ?_); refine Kd.N_append_rows_step kSeen (w0 := w1) w1.heap.size ?hw (.tmp 22) (.tmp 26) 24 36 (.agg #[(.string ⟨#[]⟩), (.int .i64 0)]) 24 rfl Try.underlying24 info36 rfl (Nat.le_add_left _ _) (Nat.le_add_left _ _) (.slice A2 xs.length c2) xs [⟨key, n⟩] (some ⟨w2.heap.size, 0, none⟩) 1 1 (fun k => w1.heap.size ≤ k) (fun k => k = w2.heap.size) rfl rfl ?hN ?hF ?hokp ?hfresh ?hB ?hbase hn2 ?_; (case hw => rfl); (case hN => exact Kd.N_below HN2.out (below_alloc (Below.refl _ _) _)); (case hF => exact BX _ _ (blk_new w2 _)); (case hokp => exact fun k hk => ⟨by subst hk; exact HBW.size, fun e => by have := Kd.N_lt HN2.out k e.symm; omega⟩); (case hfresh => exact fun k hk => Nat.le_trans (below_alloc HBW _).size hk); (case hB => exact below_alloc HBW _); (case hbase => exact (below_alloc HBW _).size); intro v3 w3 hN3 hb3 hg3 _; obtain ⟨A3, c3, rfl⟩ := Kd.N_slice hN3; have HBW := hb3; obtain ⟨s3, s4, sf⟩ := KS _ HBW) | ((with_reducible refine gate_step (N := 27) rfl ?_); go_loud (refine Kd.N_append_rows_step kSeen (w0 := w1) w1.heap.size ?hw (.tmp 22) (.tmp 26) 24 36 (.agg #[(.string ⟨#[]⟩), (.int .i64 0)]) 24 rfl Try.underlying24 info36 rfl (Nat.le_add_left _ _) (Nat.le_add_left _ _) (.slice A2 xs.length c2) xs [⟨key, n⟩] (some ⟨w1.heap.size, 0, none⟩) 1 1 (fun k => w1.heap.size ≤ k) (fun k => k = w1.heap.size) rfl rfl ?hN ?hF ?hokp ?hfresh ?hB ?hbase hn2 ?_); (case hw => rfl); (case hN => exact N_flat flat_seen (Kd.N_lower HN2.out (by simp)) (fun k hk => by have := Kd.N_base HN2.out k hk; simp at this; omega)); (case hF => exact BX _ _ (blk_below (blk_new w1.drew _) hb2)); (case hokp => exact fun k hk => ⟨Nat.le_of_eq hk.symm, fun e => by have := Kd.N_base HN2.out k e.symm; simp at this; omega⟩); (case hfresh => exact fun k hk => Nat.le_trans HBW.size hk); (case hB => exact HBW); (case hbase => exact HBW.size); intro v3 w3 hN3 hb3 hg3 _; obtain ⟨A3, c3, rfl⟩ := Kd.N_slice hN3; have HBW := hb3; obtain ⟨s3, s4, sf⟩ := KS _ HBW))
    all_goals
      go_wp2_with fail
      go_meet
      exact FIN _ _ _ hN3 hb3
  case rest =>
    obtain ⟨A', c', X, Y, F, hc, B⟩ := hcut
    obtain ⟨p0, p1, p2, p3, pf⟩ := cells4 X.out
    obtain ⟨q0, q1, q2, q3, qf⟩ := cells4 Y.out
    go_wp2_with fail
    go_region
    go_wp2_with fail
    refine bodyPost_ret (v := .tuple #[tx false bad Aq nq cq A' (ns + 1) c', .bool true]) (by simp [results, Try.results12, go_sem, q0, q1, q2, q3]) rfl ⟨A', c', rfl, ?_, hc, ?_⟩
    · exact ⟨Kd.F_mono (Kd.F_drewN (four_F F.out (g := g + 1 + 1) (fun k hk => by omega) _ _ _ _) 1) (fun k hk => by omega)⟩
    · rw [hg]; exact pw_below_drewN (four_B B.out (g := g + 1 + 1) (by omega) _ _ _ _) 1
end Go.Proofs.Ytbjhpmifjiibaaa.T
