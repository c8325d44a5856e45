/- The statement TxEnds, walked: whatever was begun and whatever words come, the call tells true. -/
import Derived.Test.YtbjhpmifjiibaaaT13
import Derived.Deep.RegionHeld3
namespace Go.Proofs.Ytbjhpmifjiibaaa.T
open Go.RowKit Go.Maps Go.Proofs.YtbjhpmifjiibaaaW.PrintWords Go.Proofs.YtbjhpmifjiibaaaW.PrintLast Go.Proofs.YtbjhpmifjiibaaaW.PrintMore
attribute [local go_sem] max2_int min2_int max_two min_two max_three min_three
set_option linter.unusedVariables false
set_option linter.unusedSimpArgs false

theorem field_one (a b : Bool) (A : Option Addr) (n c : Nat) (B : Option Addr) (m d : Nat) (W : World) : (Instr.field 26 (tx a b A n c B m d) 1).run Try.prog W = .ok (.bool b) W := by rfl
theorem field_two (a b : Bool) (A : Option Addr) (n c : Nat) (B : Option Addr) (m d : Nat) (W : World) : (Instr.field 26 (tx a b A n c B m d) 2).run Try.prog W = .ok (.slice A n c) W := by rfl
theorem field_three (a b : Bool) (A : Option Addr) (n c : Nat) (B : Option Addr) (m d : Nat) (W : World) : (Instr.field 26 (tx a b A n c B m d) 3).run Try.prog W = .ok (.slice B m d) W := by rfl

theorem second_new (w : World) (o : Obj) (cells : Array Value) : ((w.alloc o).alloc (.cells cells 26)).heap[w.heap.size + 1]? = some (.cells cells 26 (0, 0)) := by
  have h := blk_new (w.alloc o) (.cells cells 26)
  simpa using h

set_option maxHeartbeats 2000000 in
set_option maxRecDepth 100000 in
theorem ends_calls (on bad : Bool) (Aq : Option Addr) (nq cq : Nat) (As : Option Addr) (ns cs : Nat) (Aa : Option Addr) (na ca : Nat) (okq oks oka : Nat → Prop) (qs : List (List ByteArray)) (ss : List SeenD) (xs : List ByteArray) (w : World)
    (hq : Kd.F kRows w okq Aq nq qs) (hs : Kd.F kSeen w oks As ns ss) (ha : Kd.F Kd.string w oka Aa na xs) (hcq : nq ≤ cq) (hcs : ns ≤ cs) (hca : na ≤ ca) :
    Calls Try.prog 5 #[tx on bad Aq nq cq As ns cs, .slice Aa na ca] w fun e w' => e = .returned (.bool true) ∧ Below w.heap.size w w' := by
  have HQ := Aside0.mk hq
  have HS := Aside0.mk hs
  have HA := Aside0.mk ha
  have HL := Aside0.mk (Kd.F_len ha)
  clear hq hs ha
  obtain ⟨p, hp⟩ : ∃ p : Nat, (if (10 : Int) < (na : Int) then (10 : Int) else (na : Int)) = (p : Int) := ⟨min na 10, by split <;> omega⟩
  have hp1 : p ≤ 10 := by split at hp <;> omega
  have hp2 : p ≤ na := by split at hp <;> omega
  have hp3 : p ≤ ca := by omega
  have hp16 : p * 16 ≤ 140737488355328 := by omega
  go_enter Try.func5, Try.ntmps5
  go_upto_region 7 with (first | (go_at_call 7; refine (shown_calls _).mono ?_; rintro e w1 ⟨rfl, hb1⟩; have X1 := blk_below (blk_new w (.cells #[.bool on, .bool bad, .slice Aq nq cq, .slice As ns cs] 26)) hb1; have HB1 := Aside0.mk (step2 (below_alloc (Below.refl _ _) _) hb1); clear hb1; obtain ⟨p0, p1, p2, p3, pf⟩ := cells4 X1; clear X1) | (go_at_call 15; go_must (refine (small_calls on bad Aq nq cq As ns cs _ _ qs ss _ (Kd.F_below HQ.out HB1.out) (Kd.F_below HS.out HB1.out) hcq hcs).mono ?_); rintro e w2 ⟨A2, c2, B2, d2, rfl, HQ2, HS2, hc2, hd2, hb2⟩; have HB2 := Aside0.mk (step2 HB1.out hb2); clear hb2 p0 p1 p2 p3 pf HQ2 HS2 hc2 hd2; generalize (smallQ qs).length = m2; generalize (ss.take 10).length = n2) | (go_at_call 8; go_must (refine (begin_calls false false A2 m2 c2 B2 n2 d2 _).mono ?_); rintro e w3 ⟨rfl, hb3⟩; have X6 := Aside0.mk (blk_alloc (blk_below (blk_alloc (blk_new w2 (.cells #[.bool on, .bool bad, .slice A2 m2 c2, .slice B2 n2 d2] 26)) (.cells #[.bool false, .bool false, .slice A2 m2 c2, .slice B2 n2 d2] 26)) hb3) (.cells #[.bool true, .bool false, .slice none 0 0, .slice B2 n2 d2] 26)); have X7 := Aside0.mk (show (w3.alloc (.cells #[.bool true, .bool false, .slice none 0 0, .slice B2 n2 d2] 26)).heap[w2.heap.size + 1]? = some (.cells #[.bool false, .bool false, .slice A2 m2 c2, .slice B2 n2 d2] 26 (0, 0)) from blk_alloc (blk_below (second_new w2 _ _) hb3) _); have X8 := Aside0.mk (blk_new w3 (.cells #[.bool true, .bool false, .slice none 0 0, .slice B2 n2 d2] 26)); have HB3 := Aside0.mk (below_alloc (step2 (below_alloc (below_alloc HB2.out (.cells #[.bool on, .bool bad, .slice A2 m2 c2, .slice B2 n2 d2] 26)) (.cells #[.bool false, .bool false, .slice A2 m2 c2, .slice B2 n2 d2] 26)) hb3) (.cells #[.bool true, .bool false, .slice none 0 0, .slice B2 n2 d2] 26)); clear hb3))
  generalize hg6 : w2.heap.size = g6 at *
  generalize hg8 : w3.heap.size = g8 at *
  generalize w3.alloc (.cells #[.bool true, .bool false, .slice none 0 0, .slice B2 n2 d2] 26) = wd at *
  clear hg6 hg8
  go_cut [10, 11] (fun v10 v11 W => ∃ (bk : Nat) (A7 : Option Addr) (c7 : Nat), v10 = .pointer (some ⟨bk, 0, none⟩) ∧ v11 = .bool true ∧ Aside0 (W.heap[bk]? = some (.cells #[.bool true, .bool false, .slice A7 1 c7, .slice B2 n2 d2] 26 (0, 0))) ∧ Aside0 (Below wd.heap.size wd W) ∧ Aside0 (Kd.F kRows W (fun _ => True) A7 1 [xs.take p]))
  case first =>
    have KS : ∀ W, Below wd.heap.size wd W → W.cell? ⟨g8, 0, none⟩ = some (.bool true) ∧ W.cell? ⟨g8, 1, none⟩ = some (.bool false) ∧ W.cell? ⟨g8, 2, none⟩ = some (.slice none 0 0) ∧ W.cell? ⟨g8, 3, none⟩ = some (.slice B2 n2 d2) := fun W hb => by
      obtain ⟨p0, p1, p2, p3, pf⟩ := cells4 (blk_below X8.out hb)
      exact ⟨p0, p1, p2, p3⟩
    have FT : ∀ W, Below wd.heap.size wd W → Kd.F Kd.string W oka Aa p (xs.take p) := fun W hb => by
      have h1 := Kd.F_take (by have h := Kd.F_below HA.out (step2 HB3.out hb); rw [← HL.out] at h; exact h) (show p ≤ xs.length by rw [HL.out]; exact hp2)
      have h2 : (xs.take p).length = p := by rw [List.length_take, HL.out]; omega
      rw [h2] at h1
      exact h1
    have hn24 : (0 + 1) * 24 ≤ 140737488355328 := by omega
    have hc0 : (0 : Int) ≤ (p : Int) := by omega
    have HBW : Below wd.heap.size wd wd.drew := (Below.refl _ _).drew
    have NEWB : (wd.alloc (.cells #[.bool false, .bool false, .slice none 0 0, .slice none 0 0] 26)).drew.heap[wd.heap.size]? = some (.cells #[.bool false, .bool false, .slice none 0 0, .slice none 0 0] 26 (0, 0)) := blk_new wd _
    clear HQ HS HA HL X6 X7 X8 HB3
    go_region_held3 (fun W => W.cell? ⟨g8, 0, none⟩ = some (.bool true) ∧ W.cell? ⟨g8, 1, none⟩ = some (.bool false) ∧ W.cell? ⟨g8, 2, none⟩ = some (.slice none 0 0) ∧ W.cell? ⟨g8, 3, none⟩ = some (.slice B2 n2 d2))
      (with_reducible first | exact KS _ (Below.refl _ _) | exact KS _ HBW | exact KS _ (below_alloc HBW _) | exact KS _ (below_alloc (Below.refl _ _) _).drew | exact KS _ (four_B HBW (Nat.le_refl _) _ _ _ _))
      (first | (go_at_call 9; go_loud (refine (queue_on false none 0 0 B2 n2 d2 Aa p ca (fun _ => False) oka [] (xs.take p) _ (Kd.F_nil _ _ _) (FT _ ?hb) hn24 hp16).mono ?_); (case hb => with_reducible first | exact HBW | exact below_alloc HBW _ | exact (below_alloc (Below.refl _ _) _).drew); rintro e w4 ⟨A7, c7, rfl, HF4, hc4, hb4⟩; (with_reducible first | (have HBW := step2 HBW hb4) | ((obtain ⟨z0, z1, z2, z3, zf⟩ := cells4 (blk_below NEWB hb4)); have HBW := step2 (below_alloc (Below.refl _ _) _).drew hb4))))
    all_goals
      go_wp2_with fail
      go_meet
      first
      | with_reducible exact ⟨w4.heap.size, A7, c7, rfl, rfl, ⟨blk_new w4 _⟩, ⟨below_alloc HBW _⟩, ⟨Kd.F_mono (Kd.F_alloc HF4.out _) (fun _ _ => trivial)⟩⟩
      | exact ⟨wd.heap.size, A7, c7, rfl, rfl, ⟨four_set (blk_below NEWB hb4) _ _ _ _⟩, ⟨four_B HBW (Nat.le_refl _) _ _ _ _⟩, ⟨Kd.F_mono (four_F HF4.out (g := wd.heap.size) (fun x hx => hx.elim (fun h => h.elim) (fun h => by simp at h; omega)) _ _ _ _) (fun _ _ => trivial)⟩⟩
      | exact ⟨w4.heap.size, A7, c7, rfl, rfl, ⟨blk_new w4 _⟩, ⟨below_alloc HBW _⟩, ⟨Kd.F_mono (Kd.F_alloc HF4.out _) (fun _ _ => trivial)⟩⟩
  case rest =>
    obtain ⟨bk, A7, c7, rfl, rfl, HK, HBk, HFk⟩ := hcut
    have Y6 := Aside0.mk (blk_below X6.out HBk.out)
    have Y7 := Aside0.mk (blk_below X7.out HBk.out)
    have Y8 := Aside0.mk (blk_below X8.out HBk.out)
    have HBc := Aside0.mk (step2 HB3.out HBk.out)
    have F7 := Aside0.mk (Kd.F_bound HFk.out)
    clear X6 X7 X8 HB3 HBk HFk
    obtain ⟨p0, p1, p2, p3, pf⟩ := cells4 HK.out
    have hn48 : (1 + 1) * 24 ≤ 140737488355328 := by omega
    have hf1 := field_one
    have hf2 := field_two
    have hf3 := field_three
    go_wp2_with (first | (go_at_call_of 11 (Value.agg #[.bool true, .bool false, .slice A7 1 c7, .slice B2 n2 d2]); go_must (refine (spoil_calls true false A7 1 c7 B2 n2 d2 _).mono ?_); rintro e w5 ⟨rfl, hb5⟩; have HC5 := Aside0.mk (below_alloc hb5 (.cells #[.bool true, .bool true, .slice A7 1 c7, .slice B2 n2 d2] 26)); have X12 := Aside0.mk (blk_new w5 (.cells #[.bool true, .bool true, .slice A7 1 c7, .slice B2 n2 d2] 26)); clear hb5 p0 p1 p2 p3 pf) | (go_at_call 9; go_must (refine (queue_on true A7 1 c7 B2 n2 d2 none 0 0 _ (fun _ => False) [xs.take p] [] _ (Kd.F_below F7.out HC5.out) (Kd.F_nil _ _ _) hn48 (by omega)).mono ?_); rintro e w6 ⟨A8, c8, rfl, HF8, hc8, hb6⟩; have HC6 := below_alloc (step2 HC5.out hb6) (.cells #[.bool true, .bool true, .slice A8 2 c8, .slice B2 n2 d2] 26); obtain ⟨a0, a1, a2, a3, af⟩ := cells4 (blk_below Y6.out HC6); obtain ⟨b0, b1, b2, b3, bf⟩ := cells4 (blk_below Y7.out HC6); obtain ⟨d0, d1, d2', d3, df⟩ := cells4 (blk_below Y8.out HC6); obtain ⟨e0, e1, e2, e3, ef⟩ := cells4 (blk_below HK.out HC6); obtain ⟨f0, f1, f2, f3, ff⟩ := cells4 (blk_alloc (blk_below X12.out hb6) (.cells #[.bool true, .bool true, .slice A8 2 c8, .slice B2 n2 d2] 26)); have X13 := Aside0.mk (blk_new w6 (.cells #[.bool true, .bool true, .slice A8 2 c8, .slice B2 n2 d2] 26)); have HBc := Aside0.mk (step2 HBc.out HC6); clear hb6 HC6) | (go_at_call 11; go_must (refine (spoil_calls false false A2 m2 c2 B2 n2 d2 _).mono ?_); rintro e w7 ⟨rfl, hb7⟩; have X13 := Aside0.mk (blk_below X13.out hb7); have HBc := Aside0.mk (step2 HBc.out hb7); obtain ⟨h0, h1, h2, h3, hff⟩ := cells4 X13.out; clear hb7) | (go_at_call 14; go_must (refine (forget_calls true true A8 2 c8 B2 n2 d2 _).mono ?_); rintro e w8 ⟨rfl, hb8⟩; have X13 := Aside0.mk (blk_below X13.out hb8); have HBc := Aside0.mk (step2 HBc.out hb8); obtain ⟨h0, h1, h2, h3, hff⟩ := cells4 X13.out; clear hb8))
    go_ret
    exact ⟨rfl, HBc.out⟩
end Go.Proofs.Ytbjhpmifjiibaaa.T
