/- The reference's Watch: what it comes to, in whatever memory. -/
import Derived.Test.YtbjhpmifjiibaaaT16
import Derived.Test.YtbjhpmifjiibaaaT11
namespace Go.Proofs.Ytbjhpmifjiibaaa.T
open Go.RowKit Go.Maps Go.Proofs.YtbjhpmifjiibaaaW.PrintWords
set_option linter.unusedVariables false
set_option linter.unusedSimpArgs false

theorem refWatch_on (bad : Bool) (Aq : Option Addr) (nq cq : Nat) (As : Option Addr) (ns cs : Nat) (key : ByteArray) (n : Int) (w : World) :
    Calls Try.prog 19 #[tx true bad Aq nq cq As ns cs, .string key, .int .i64 n] w fun e w' => e = .returned (.tuple #[tx true bad Aq nq cq As ns cs, .bool false]) ∧ Below w.heap.size w w' := by
  go_enter Try.func19, Try.ntmps19
  go_wp2
  refine bodyPost_ret (v := .tuple #[tx true bad Aq nq cq As ns cs, .bool false]) (by simp [results, Try.results19, go_sem]) rfl ⟨rfl, ?_⟩
  exact below_alloc (below_alloc (Below.refl _ _) _) _

theorem second_new1 (w : World) (o : Obj) (cells : Array Value) : ((w.alloc o).alloc (.cells cells 26)).heap[w.heap.size + 1]? = some (.cells cells 26 (0, 0)) := by
  have h := blk_new (w.alloc o) (.cells cells 26)
  simpa using h
theorem there_hit {xs : List SeenD} {key : ByteArray} (k : Nat) (hk : k < xs.length) (h : (xs[k].key.toList == key.toList) = true) : there xs key = true := by
  unfold there
  rw [List.any_eq_true]
  exact ⟨xs[k], List.getElem_mem hk, h⟩
theorem there_miss {xs : List SeenD} {key : ByteArray} (h : ∀ j (hj : j < xs.length), (xs[j].key.toList == key.toList) = false) : there xs key = false := by
  unfold there
  rw [List.any_eq_false]
  intro x hx
  obtain ⟨j, hj, rfl⟩ := List.mem_iff_getElem.1 hx
  rw [h j hj]
  decide

set_option maxHeartbeats 1000000 in
theorem refWatch_off (bad : Bool) (Aq : Option Addr) (nq cq : Nat) (As : Option Addr) (ns cs : Nat) (oks : Nat → Prop) (xs : List SeenD) (key : ByteArray) (n : Int) (w : World)
    (hs : Kd.F kSeen w oks As ns xs) (hn : (ns + 1) * 24 ≤ 140737488355328) (hc : ns ≤ cs) :
    Calls Try.prog 19 #[tx false bad Aq nq cq As ns cs, .string key, .int .i64 n] w fun e w' => ∃ A' c', e = .returned (.tuple #[tx false bad Aq nq cq A' (watchS xs key n).length c', .bool true]) ∧ Aside0 (Kd.F kSeen w' (fun k => oks k ∨ w.heap.size ≤ k) A' (watchS xs key n).length (watchS xs key n)) ∧ (watchS xs key n).length ≤ c' ∧ Below w.heap.size w w' := by
  have HS := Aside0.mk hs
  have HL := Aside0.mk (Kd.F_len hs)
  have hmax := Kd.F_max hs
  clear hs
  go_enter Try.func19, Try.ntmps19
  go_upto_region 4 with fail
  have X0 := Aside0.mk (blk_alloc (blk_new w (.cells #[.bool false, .bool bad, .slice Aq nq cq, .slice As ns cs] 26)) (.cells #[.bool false, .bool false, .slice none 0 0, .slice none 0 0] 26))
  have X1 := Aside0.mk (show ((w.alloc (.cells #[.bool false, .bool bad, .slice Aq nq cq, .slice As ns cs] 26)).alloc (.cells #[.bool false, .bool false, .slice none 0 0, .slice none 0 0] 26)).heap[w.heap.size + 1]? = some (.cells #[.bool false, .bool false, .slice none 0 0, .slice none 0 0] 26 (0, 0)) from second_new1 w _ _)
  have HB0 := Aside0.mk (below_alloc (below_alloc (Below.refl w.heap.size w) (.cells #[.bool false, .bool bad, .slice Aq nq cq, .slice As ns cs] 26)) (.cells #[.bool false, .bool false, .slice none 0 0, .slice none 0 0] 26))
  generalize (w.alloc (.cells #[.bool false, .bool bad, .slice Aq nq cq, .slice As ns cs] 26)).alloc (.cells #[.bool false, .bool false, .slice none 0 0, .slice none 0 0] 26) = wd at *
  go_loopw [8] (fun i wr => ∃ k : Nat, k ≤ ns ∧ i = .int .i64 k ∧ Aside0 (wr = wd) ∧ Aside0 (∀ j (hj : j < xs.length), j < k → (xs[j].key.toList == key.toList) = false)) (fun i _ => ns - (intOf i).toNat)
  case atStart => exact ⟨0, Nat.zero_le _, rfl, ⟨rfl⟩, ⟨fun j _ hj => absurd hj (Nat.not_lt_zero _)⟩⟩
  case round =>
    obtain ⟨k, hkn, rfl, HW, HM⟩ := hrel
    obtain rfl := HW.out
    obtain ⟨p0, p1, p2, p3, pf⟩ := cells4 X0.out
    by_cases hlt : k < ns
    · obtain ⟨ad, hl, rfl, c0, c1⟩ := seen_at (Kd.F_below HS.out HB0.out) k hlt
      cases hp : (xs[k].key.toList == key.toList)
      · have HP := Aside0.mk hp
        go_wp2_with fail
        go_roundw
        case rel => exact ⟨k + 1, by omega, by go_num, ⟨by trivial⟩, ⟨fun j hj hlt' => by
          rcases Nat.lt_succ_iff_lt_or_eq.1 hlt' with h1 | h1
          · exact HM.out j hj h1
          · subst h1; exact HP.out⟩⟩
        case measure => simp [intOf]; omega
      · have HT := Aside0.mk (there_hit k hl hp)
        obtain ⟨q0, q1, q2, q3, qf⟩ := cells4 X1.out
        go_wp2_with fail
        refine bodyPost_ret (v := .tuple #[tx false bad Aq nq cq (some ad) ns cs, .bool true]) (by simp [results, Try.results19, go_sem, q0, q1, q2, q3]) rfl ?_
        have hw : watchS xs key n = xs := by unfold watchS; rw [HT.out]; rfl
        rw [hw, HL.out]
        exact ⟨some ad, cs, rfl, ⟨Kd.F_mono (four_F (Kd.F_old HS.out HB0.out) (g := w.heap.size + 1) (fun k hk => by have := hk.2; omega) _ _ _ _) (fun k hk => .inl hk.1)⟩, hc, four_B HB0.out (g := w.heap.size + 1) (by omega) _ _ _ _⟩
    · have HT := Aside0.mk (there_miss (fun j hj => HM.out j hj (by have := HL.out; omega)) : there xs key = false)
      clear HM HW
      go_upto_region 9 with fail
      have X2 := Aside0.mk (blk_new wr (.cells #[.bool false, .bool bad, .slice Aq nq cq, .slice As ns cs] 26))
      have X1' := Aside0.mk (blk_alloc X1.out (.cells #[.bool false, .bool bad, .slice Aq nq cq, .slice As ns cs] 26))
      have HB1 := Aside0.mk (below_alloc HB0.out (.cells #[.bool false, .bool bad, .slice Aq nq cq, .slice As ns cs] 26))
      have hz1 : w.heap.size + 1 < wr.heap.size := blk_lt X1.out
      clear p0 p1 p2 p3 pf
      obtain ⟨p0, p1, p2, p3, pf⟩ := cells4 (blk_alloc (blk_alloc X0.out (.cells #[.bool false, .bool bad, .slice Aq nq cq, .slice As ns cs] 26)) (.cells #[] 36))
      generalize wr.heap.size = h2 at *
      generalize wr.alloc (.cells #[.bool false, .bool bad, .slice Aq nq cq, .slice As ns cs] 26) = we at *
      have hz2 : h2 < we.heap.size := blk_lt X2.out
      go_wp2_with (first | ((with_reducible refine gate_builtin (b := .append) (xs := #[.tmp 30, .tmp 32]) rfl ?_); at_builtin; go_must (refine Kd.N_append_rows kSeen (w0 := we) we.heap.size rfl (.tmp 30) (.tmp 32) 24 36 (.agg #[(.string ⟨#[]⟩), (.int .i64 0)]) 24 rfl Try.underlying24 info36 rfl (by decide) (by decide) (.slice (some ⟨we.heap.size, 0, none⟩) 0 0) [] xs As ns cs (fun k => (oks k ∧ k < w.heap.size) ∨ we.heap.size ≤ k) (fun k => oks k ∧ k < w.heap.size) ?hs ?hx ?hN ?hF ?hokp ?hfresh ?hB ?hbase ?hl ?_); (case hs => rfl); (case hx => rfl); (case hN => exact N_empty kSeen (blk_new we _) (Nat.le_refl _) (.inr (Nat.le_refl _))); (case hF => exact Kd.F_old HS.out (below_alloc HB1.out _)); (case hokp => exact fun k hk => ⟨.inl hk, own_ne (by have := hk.2; omega)⟩); (case hfresh => exact fun k hk => .inr (Nat.le_trans (below_alloc (Below.refl we.heap.size we) _).size hk)); (case hB => exact below_alloc (Below.refl _ _) _); (case hbase => exact (below_alloc (Below.refl we.heap.size we) _).size); (case hl => simp; omega); intro v1 w1 hN1 hb1 hg1 _; rw [List.nil_append] at hN1; obtain ⟨A1, c1, rfl⟩ := Kd.N_slice hN1; have HN1 := Aside0.mk (N_flat flat_seen hN1 (Kd.N_base hN1)); have HD1 := Aside0.mk hb1; clear hN1 hb1 hg1) | ((with_reducible refine gate_builtin (b := .append) (xs := #[.tmp 33, .tmp 37]) rfl ?_); at_builtin; go_must (refine Kd.N_append kSeen (w0 := we) we.heap.size rfl (.tmp 33) (.tmp 37) 24 36 (.agg #[(.string ⟨#[]⟩), (.int .i64 0)]) 24 rfl Try.underlying24 info36 rfl (by decide) (by decide) (.slice A1 xs.length c1) xs ⟨key, n⟩ [.string key, .int .i64 n] (fun k => we.heap.size ≤ k) (fun _ => False) ?hs ?hx ?x1 (fun _ h => h.elim) ?x3 HN1.out HD1.out ?x6 ?x7 ?_); (case hs => rfl); (case hx => rfl); (case x1 => exact fun _ _ => ⟨[.string key], [.int .i64 n], rfl, rfl, rfl⟩); (case x3 => exact fun k hk => Nat.le_trans HD1.out.size hk); (case x6 => exact HD1.out.size); (case x7 => have := HL.out; omega); intro v3 w3 hN3 hb3 hg3 _; obtain ⟨A3, c3, rfl⟩ := Kd.N_slice hN3; have X13 := blk_below X1'.out hb3; have X23 := blk_below X2.out hb3; obtain ⟨q0, q1, q2, q3, qf⟩ := cells4 X13; obtain ⟨r0, r1, r2, r3, rf⟩ := cells4 X23; have HN3 := Aside0.mk hN3; have HB3 := Aside0.mk (step2 HB1.out hb3); clear hN3 hb3 hg3 X13 X23))
      have hl : (xs ++ [(⟨key, n⟩ : SeenD)]).length = ns + 1 := by rw [List.length_append, HL.out]; rfl
      have hw : watchS xs key n = xs ++ [⟨key, n⟩] := by unfold watchS; rw [HT.out]; rfl
      refine bodyPost_ret (v := .tuple #[tx false bad Aq nq cq A3 (xs.length + 1) c3, .bool true]) (by simp [results, Try.results19, go_sem, q0, q1, q2, q3, r0, r1, r2, r3]) rfl ?_
      rw [hw, hl]
      refine ⟨A3, c3, by rw [HL.out], ⟨?_⟩, ?_, ?_⟩
      · have hF := Kd.N_F HN3.out
        have h5 := four_F (Kd.F_far (p := ⟨h2, 3, none⟩) hF (fun k hk => by show k ≠ h2; omega) (.slice A3 (xs.length + 1) c3)) (g := w.heap.size + 1) (fun k hk => by omega) (.bool false) (.bool bad) (.slice Aq nq cq) (.slice A3 (xs.length + 1) c3)
        rw [← hl]
        exact Kd.F_mono h5 (fun k hk => .inr (by omega))
      · have := (Kd.N_reads' HN3.out).2.1
        rw [hl] at this
        exact this
      · exact four_B (HB3.out.setCell (p := ⟨h2, 3, none⟩) (by show w.heap.size ≤ h2; omega) _) (g := w.heap.size + 1) (by omega) _ _ _ _
end Go.Proofs.Ytbjhpmifjiibaaa.T
