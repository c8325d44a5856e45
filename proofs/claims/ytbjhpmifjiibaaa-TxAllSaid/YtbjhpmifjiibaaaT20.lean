/- The statement TxAll, walked: whatever was begun, whatever key, number, words and keys come, the call tells true. -/
import Derived.Test.YtbjhpmifjiibaaaT19
import Derived.Test.YtbjhpmifjiibaaaT14
import Derived.Deep.RegionHeld3
namespace Go.Proofs.Ytbjhpmifjiibaaa.T
open Go.RowKit Go.Maps Go.Proofs.YtbjhpmifjiibaaaW.PrintWords Go.Proofs.YtbjhpmifjiibaaaW.PrintLast Go.Proofs.YtbjhpmifjiibaaaW.PrintMore
attribute [local go_sem] max2_int min2_int max_two min_two max_three min_three
set_option linter.unusedVariables false
set_option linter.unusedSimpArgs false

theorem second_new' (w : World) (o : Obj) (cells : Array Value) (t : TypeId) : ((w.alloc o).alloc (.cells cells t)).heap[w.heap.size + 1]? = some (.cells cells t (0, 0)) := by
  have h := blk_new (w.alloc o) (.cells cells t)
  simpa using h
theorem cells4' {W : World} {g : Nat} {t : TypeId} {a b c d : Value} (h : W.heap[g]? = some (.cells #[a, b, c, d] t (0, 0))) :
    W.cell? ⟨g, 0, none⟩ = some a ∧ W.cell? ⟨g, 1, none⟩ = some b ∧ W.cell? ⟨g, 2, none⟩ = some c ∧ W.cell? ⟨g, 3, none⟩ = some d :=
  ⟨(blk_cell h 0).trans rfl, (blk_cell h 1).trans rfl, (blk_cell h 2).trans rfl, (blk_cell h 3).trans rfl⟩

set_option maxHeartbeats 4000000 in
set_option maxRecDepth 100000 in
theorem all_calls (on bad : Bool) (Aq : Option Addr) (nq cq : Nat) (As : Option Addr) (ns cs : Nat) (key : ByteArray) (n : Int) (Aa : Option Addr) (na ca : Nat) (An : Option Addr) (nn cn : Nat) (okq oks oka okn : Nat → Prop) (qs : List (List ByteArray)) (ss now : List SeenD) (xs : List ByteArray) (w : World)
    (hq : Kd.F kRows w okq Aq nq qs) (hs : Kd.F kSeen w oks As ns ss) (ha : Kd.F Kd.string w oka Aa na xs) (hn : Kd.F kSeen w okn An nn now) (hcq : nq ≤ cq) (hcs : ns ≤ cs) (hca : na ≤ ca) (hcn : nn ≤ cn)
    (zs : ∀ x ∈ ss, x.key.size ≤ maxLen) (zn : ∀ x ∈ now, x.key.size ≤ maxLen ∧ (Lit.int .i64 x.n).wf = true) :
    Calls Try.prog 6 #[tx on bad Aq nq cq As ns cs, .agg #[.string key, .int .i64 n, .slice Aa na ca, .slice An nn cn]] w fun e w' => e = .returned (.bool true) ∧ Below w.heap.size w w' := by
  have HQ := Aside0.mk hq
  have HS := Aside0.mk hs
  have HA := Aside0.mk ha
  have HN := Aside0.mk hn
  have HLA := Aside0.mk (Kd.F_len ha)
  have HLN := Aside0.mk (Kd.F_len hn)
  have ZS := Aside0.mk zs
  have ZN := Aside0.mk zn
  clear hq hs ha hn zs zn
  obtain ⟨p, hp⟩ : ∃ p : Nat, (if (10 : Int) < (na : Int) then (10 : Int) else (na : Int)) = (p : Int) := ⟨min na 10, by split <;> omega⟩
  have hp1 : p ≤ 10 := by split at hp <;> omega
  have hp2 : p ≤ na := by split at hp <;> omega
  have hp3 : p ≤ ca := by omega
  obtain ⟨r, hr⟩ : ∃ r : Nat, (if (20 : Int) < (nn : Int) then (20 : Int) else (nn : Int)) = (r : Int) := ⟨min nn 20, by split <;> omega⟩
  have hr1 : r ≤ 20 := by split at hr <;> omega
  have hr2 : r ≤ nn := by split at hr <;> omega
  have hr3 : r ≤ cn := by omega
  have hp16 : p * 16 ≤ 140737488355328 := by omega
  obtain ⟨Q, hQ⟩ : ∃ Q, Q = smallQ qs := ⟨_, rfl⟩
  obtain ⟨S, hS⟩ : ∃ S, S = ss.take 10 := ⟨_, rfl⟩
  have HQQ := Aside0.mk hQ
  have HSS := Aside0.mk hS
  clear hQ hS
  go_enter Try.func6, Try.ntmps6
  go_upto_region 3 with (first | (go_at_call 7; refine (shown_calls _).mono ?_; rintro e w1 ⟨rfl, hb1⟩; have X2 := Aside0.mk (blk_below (blk_alloc (blk_new w (.cells #[.bool on, .bool bad, .slice Aq nq cq, .slice As ns cs] 26)) (.cells #[.string key, .int .i64 n, .slice Aa na ca, .slice An nn cn] 41)) hb1); have X3 := Aside0.mk (blk_below (second_new' w (.cells #[.bool on, .bool bad, .slice Aq nq cq, .slice As ns cs] 26) _ _ : ((w.alloc (.cells #[.bool on, .bool bad, .slice Aq nq cq, .slice As ns cs] 26)).alloc (.cells #[.string key, .int .i64 n, .slice Aa na ca, .slice An nn cn] 41)).heap[w.heap.size + 1]? = some (.cells #[.string key, .int .i64 n, .slice Aa na ca, .slice An nn cn] 41 (0, 0))) hb1); have HB1 := Aside0.mk (step2 (below_alloc (below_alloc (Below.refl _ _) (.cells #[.bool on, .bool bad, .slice Aq nq cq, .slice As ns cs] 26)) (.cells #[.string key, .int .i64 n, .slice Aa na ca, .slice An nn cn] 41)) hb1); clear hb1; obtain ⟨p0, p1, p2, p3⟩ := cells4' X2.out) | (go_at_call 15; go_must (refine (small_calls on bad Aq nq cq As ns cs _ _ qs ss _ (Kd.F_below HQ.out HB1.out) (Kd.F_below HS.out HB1.out) hcq hcs).mono ?_); rw [← HQQ.out, ← HSS.out]; rintro e w2 ⟨A6, c6, B6, d6, rfl, HQ6, HS6, hc6, hd6, hb2⟩; have HB2 := Aside0.mk (below_alloc (step2 HB1.out hb2) (.cells #[.bool on, .bool bad, .slice A6 Q.length c6, .slice B6 S.length d6] 26)); have X2 := Aside0.mk (blk_alloc (blk_below X2.out hb2) (.cells #[.bool on, .bool bad, .slice A6 Q.length c6, .slice B6 S.length d6] 26)); have X3 := Aside0.mk (blk_alloc (blk_below X3.out hb2) (.cells #[.bool on, .bool bad, .slice A6 Q.length c6, .slice B6 S.length d6] 26)); have X6 := Aside0.mk (blk_new w2 (.cells #[.bool on, .bool bad, .slice A6 Q.length c6, .slice B6 S.length d6] 26)); have HQ6 := Aside0.mk (Kd.F_alloc HQ6.out (.cells #[.bool on, .bool bad, .slice A6 Q.length c6, .slice B6 S.length d6] 26)); have HS6 := Aside0.mk (Kd.F_alloc HS6.out (.cells #[.bool on, .bool bad, .slice A6 Q.length c6, .slice B6 S.length d6] 26)); clear hb2 p0 p1 p2 p3))
  generalize w2.heap.size = g6 at *
  generalize w2.alloc (.cells #[.bool on, .bool bad, .slice A6 Q.length c6, .slice B6 S.length d6] 26) = w3 at *
  obtain ⟨p0, p1, p2, p3⟩ := cells4' X2.out
  go_upto_region 4 with (go_at_call 15; go_must (refine (small_calls on bad Aq nq cq As ns cs _ _ qs ss _ (Kd.F_below HQ.out HB2.out) (Kd.F_below HS.out HB2.out) hcq hcs).mono ?_); rw [← HQQ.out, ← HSS.out]; rintro e w4 ⟨A7, c7, B7, d7, rfl, HQ7, HS7, hc7, hd7, hb4⟩; have HB4 := Aside0.mk (below_alloc (step2 HB2.out hb4) (.cells #[.bool on, .bool bad, .slice A7 Q.length c7, .slice B7 S.length d7] 26)); have X3 := Aside0.mk (blk_alloc (blk_below X3.out hb4) (.cells #[.bool on, .bool bad, .slice A7 Q.length c7, .slice B7 S.length d7] 26)); have X6 := Aside0.mk (blk_alloc (blk_below X6.out hb4) (.cells #[.bool on, .bool bad, .slice A7 Q.length c7, .slice B7 S.length d7] 26)); have X7 := Aside0.mk (blk_new w4 (.cells #[.bool on, .bool bad, .slice A7 Q.length c7, .slice B7 S.length d7] 26)); have HQ6 := Aside0.mk (F_any HQ6.out (below_alloc hb4 (.cells #[.bool on, .bool bad, .slice A7 Q.length c7, .slice B7 S.length d7] 26))); have HS6 := Aside0.mk (F_any HS6.out (below_alloc hb4 (.cells #[.bool on, .bool bad, .slice A7 Q.length c7, .slice B7 S.length d7] 26))); have HQ7 := Aside0.mk (Kd.F_alloc HQ7.out (.cells #[.bool on, .bool bad, .slice A7 Q.length c7, .slice B7 S.length d7] 26)); have HS7 := Aside0.mk (Kd.F_alloc HS7.out (.cells #[.bool on, .bool bad, .slice A7 Q.length c7, .slice B7 S.length d7] 26)); clear hb4 p0 p1 p2 p3)
  generalize w4.heap.size = g7 at *
  generalize w4.alloc (.cells #[.bool on, .bool bad, .slice A7 Q.length c7, .slice B7 S.length d7] 26) = wz at *
  obtain ⟨p0, p1, p2, p3⟩ := cells4' X3.out
  go_upto_region 6 with fail
  have HFA := Aside0.mk (show Kd.F Kd.string wz oka Aa p (xs.take p) from by
    have h1 := Kd.F_take (by have h := Kd.F_below HA.out HB4.out; rw [← HLA.out] at h; exact h) (show p ≤ xs.length by rw [HLA.out]; exact hp2)
    have h2 : (xs.take p).length = p := by rw [List.length_take, HLA.out]; omega
    rw [h2] at h1
    exact h1)
  have HFN := Aside0.mk (show Kd.F kSeen wz okn An r (now.take r) from by
    have h1 := Kd.F_take (by have h := Kd.F_below HN.out HB4.out; rw [← HLN.out] at h; exact h) (show r ≤ now.length by rw [HLN.out]; exact hr2)
    have h2 : (now.take r).length = r := by rw [List.length_take, HLN.out]; omega
    rw [h2] at h1
    exact h1)
  have hlx : (xs.take p).length ≤ 10 := by rw [List.length_take]; omega
  obtain ⟨L, hL⟩ : ∃ L, L = xs.take p := ⟨_, rfl⟩
  rw [← hL] at HFA hlx
  obtain ⟨M, hM⟩ : ∃ M, M = now.take r := ⟨_, rfl⟩
  rw [← hM] at HFN
  have ZM := Aside0.mk (show ∀ x ∈ M, x.key.size ≤ maxLen ∧ (Lit.int .i64 x.n).wf = true from fun x hx => by rw [hM] at hx; exact ZN.out x (List.mem_of_mem_take hx))
  have ZT := Aside0.mk (show ∀ x ∈ S, x.key.size ≤ maxLen from fun x hx => by rw [HSS.out] at hx; exact ZS.out x (List.mem_of_mem_take hx))
  have hM20 : M.length ≤ 1000 := by rw [hM, List.length_take]; omega
  have hS10 : S.length ≤ 10 := by rw [HSS.out, List.length_take]; omega
  have hQ10 : Q.length ≤ 10 := by rw [HQQ.out]; exact (small_len qs).1
  have hQr := Aside0.mk (show ∀ r ∈ Q, r.length ≤ 10 from by rw [HQQ.out]; exact (small_len qs).2)
  clear hL hM HQ HS HA HN HLA HLN ZS ZN HB2 HQQ HSS p0 p1 p2 p3 HB1 X2
  have HZ := Aside0.mk (Below.refl wz.heap.size wz)
  obtain ⟨p0, p1, p2, p3⟩ := cells4' (blk_below X6.out HZ.out)
  go_upto_region 9 with (first | (go_at_call 8; go_must (refine (begin_any on bad A6 c6 B6 S.length d6 Q _ (Kd.F_below HQ6.out HZ.out) hc6 8 (begin_calls on bad A6 Q.length c6 B6 S.length d6 _)).mono ?_); rintro e w5 ⟨A10, c10, rfl, HF1, hc1, hb5⟩; have HZ5 := Aside0.mk (below_alloc (step2 HZ.out hb5) (.cells #[.bool true, .bool (on && bad), .slice A10 (beginQ on Q).length c10, .slice B6 S.length d6] 26)); have HF1 := Aside0.mk (Kd.F_alloc HF1.out (.cells #[.bool true, .bool (on && bad), .slice A10 (beginQ on Q).length c10, .slice B6 S.length d6] 26)); have X10 := Aside0.mk (blk_new w5 (.cells #[.bool true, .bool (on && bad), .slice A10 (beginQ on Q).length c10, .slice B6 S.length d6] 26)); clear hb5 p0 p1 p2 p3; obtain ⟨p0, p1, p2, p3⟩ := cells4' (blk_below X6.out HZ5.out)) | (go_at_call 16; go_must (refine (begin_any on bad A6 c6 B6 S.length d6 Q _ (Kd.F_below HQ6.out HZ5.out) hc6 16 (refBegin_calls on bad A6 Q.length c6 B6 S.length d6 _)).mono ?_); rintro e w6 ⟨A12, c12, rfl, HF2, hc2, hb6⟩; have HZ6 := Aside0.mk (below_alloc (step2 HZ5.out hb6) (.cells #[.bool true, .bool (on && bad), .slice A12 (beginQ on Q).length c12, .slice B6 S.length d6] 26)); have HF1 := Aside0.mk (F_any HF1.out (below_alloc hb6 (.cells #[.bool true, .bool (on && bad), .slice A12 (beginQ on Q).length c12, .slice B6 S.length d6] 26))); have HF2 := Aside0.mk (Kd.F_alloc HF2.out (.cells #[.bool true, .bool (on && bad), .slice A12 (beginQ on Q).length c12, .slice B6 S.length d6] 26)); obtain ⟨q0, q1, q2, q3⟩ := cells4' (blk_alloc (blk_below X10.out hb6) (.cells #[.bool true, .bool (on && bad), .slice A12 (beginQ on Q).length c12, .slice B6 S.length d6] 26)); clear hb6 p0 p1 p2 p3 X10) | (go_at_call 17; go_must (refine (same_calls true (on && bad) A10 A12 (beginQ on Q).length c10 c12 B6 B6 S.length d6 d6 _ _ _ _ (beginQ on Q) S _ HF1.out (Kd.F_below HS6.out HZ6.out) HF2.out (Kd.F_below HS6.out HZ6.out) hc1 hd6 hc2 hd6 (by omega) (len_begin hQ10 hQr.out).1 (len_begin hQ10 hQr.out).2).mono ?_); rintro e w7 ⟨rfl, hb7⟩; have HZ7 := Aside0.mk (step2 HZ6.out hb7); clear hb7 q0 q1 q2 q3 HF1 HF2 HZ5 HZ6 hc1 hc2))
  clear HZ
  have HZ := HZ7
  clear HZ7
  obtain ⟨p0, p1, p2, p3⟩ := cells4' (blk_below X6.out HZ.out)
  go_upto_region 12 with (first | (go_at_call 9; go_must (refine (queue9 on bad A6 c6 B6 S.length d6 Q _ (Kd.F_below HQ6.out HZ.out) hc6 (Kd.F_below HFA.out HZ.out) (by omega) hp16).mono ?_); rintro e w5 ⟨A10, c10, rfl, HF1, hc1, hb5⟩; have HZ5 := Aside0.mk (below_alloc (step2 HZ.out hb5) (.cells #[.bool on, .bool bad, .slice A10 (queueQ on Q L).length c10, .slice B6 S.length d6] 26)); have HF1 := Aside0.mk (Kd.F_alloc HF1.out (.cells #[.bool on, .bool bad, .slice A10 (queueQ on Q L).length c10, .slice B6 S.length d6] 26)); have X10 := Aside0.mk (blk_new w5 (.cells #[.bool on, .bool bad, .slice A10 (queueQ on Q L).length c10, .slice B6 S.length d6] 26)); clear hb5 p0 p1 p2 p3; obtain ⟨p0, p1, p2, p3⟩ := cells4' (blk_below X6.out HZ5.out)) | (go_at_call 18; go_must (refine (queue18 on bad A6 c6 B6 S.length d6 Q _ (Kd.F_below HQ6.out HZ5.out) hc6 (Kd.F_below HFA.out HZ5.out) (by omega) hp16).mono ?_); rintro e w6 ⟨A12, c12, rfl, HF2, hc2, hb6⟩; have HZ6 := Aside0.mk (below_alloc (step2 HZ5.out hb6) (.cells #[.bool on, .bool bad, .slice A12 (queueQ on Q L).length c12, .slice B6 S.length d6] 26)); have HF1 := Aside0.mk (F_any HF1.out (below_alloc hb6 (.cells #[.bool on, .bool bad, .slice A12 (queueQ on Q L).length c12, .slice B6 S.length d6] 26))); have HF2 := Aside0.mk (Kd.F_alloc HF2.out (.cells #[.bool on, .bool bad, .slice A12 (queueQ on Q L).length c12, .slice B6 S.length d6] 26)); obtain ⟨q0, q1, q2, q3⟩ := cells4' (blk_alloc (blk_below X10.out hb6) (.cells #[.bool on, .bool bad, .slice A12 (queueQ on Q L).length c12, .slice B6 S.length d6] 26)); clear hb6 p0 p1 p2 p3 X10) | (go_at_call 17; go_must (refine (same_calls on bad A10 A12 (queueQ on Q L).length c10 c12 B6 B6 S.length d6 d6 _ _ _ _ (queueQ on Q L) S _ HF1.out (Kd.F_below HS6.out HZ6.out) HF2.out (Kd.F_below HS6.out HZ6.out) hc1 hd6 hc2 hd6 (by omega) (len_queue hQ10 hQr.out hlx).1 (len_queue hQ10 hQr.out hlx).2).mono ?_); rintro e w7 ⟨rfl, hb7⟩; have HZ7 := Aside0.mk (step2 HZ6.out hb7); clear hb7 q0 q1 q2 q3 HF1 HF2 HZ5 HZ6 hc1 hc2))
  clear HZ
  have HZ := HZ7
  clear HZ7
  obtain ⟨p0, p1, p2, p3⟩ := cells4' (blk_below X6.out HZ.out)
  obtain ⟨t0, t1, t2, t3⟩ := cells4' (blk_below X3.out HZ.out)
  go_upto_region 15 with (first | (go_at_call 12; go_must (refine (watch12 on bad A6 c6 B6 d6 _ Q.length S key n (Kd.F_below HS6.out HZ.out) hd6 (by omega)).mono ?_); rintro e w5 ⟨B10, d10, rfl, HF1, hc1, hb5⟩; have HZ5 := Aside0.mk (below_alloc (step2 HZ.out hb5) (.cells #[.bool on, .bool bad, .slice A6 Q.length c6, .slice B10 (watchQ on S key n).length d10] 26)); have HF1 := Aside0.mk (Kd.F_alloc HF1.out (.cells #[.bool on, .bool bad, .slice A6 Q.length c6, .slice B10 (watchQ on S key n).length d10] 26)); have X10 := Aside0.mk (blk_new w5 (.cells #[.bool on, .bool bad, .slice A6 Q.length c6, .slice B10 (watchQ on S key n).length d10] 26)); clear hb5 p0 p1 p2 p3; obtain ⟨p0, p1, p2, p3⟩ := cells4' (blk_below X6.out HZ5.out); obtain ⟨t0, t1, t2, t3⟩ := cells4' (blk_below X3.out HZ5.out)) | (go_at_call 19; go_must (refine (watch19 on bad A6 c6 B6 d6 _ Q.length S key n (Kd.F_below HS6.out HZ5.out) hd6 (by omega)).mono ?_); rintro e w6 ⟨B12, d12, rfl, HF2, hc2, hb6⟩; have HZ6 := Aside0.mk (below_alloc (step2 HZ5.out hb6) (.cells #[.bool on, .bool bad, .slice A6 Q.length c6, .slice B12 (watchQ on S key n).length d12] 26)); have HF1 := Aside0.mk (F_any HF1.out (below_alloc hb6 (.cells #[.bool on, .bool bad, .slice A6 Q.length c6, .slice B12 (watchQ on S key n).length d12] 26))); have HF2 := Aside0.mk (Kd.F_alloc HF2.out (.cells #[.bool on, .bool bad, .slice A6 Q.length c6, .slice B12 (watchQ on S key n).length d12] 26)); obtain ⟨q0, q1, q2, q3⟩ := cells4' (blk_alloc (blk_below X10.out hb6) (.cells #[.bool on, .bool bad, .slice A6 Q.length c6, .slice B12 (watchQ on S key n).length d12] 26)); clear hb6 p0 p1 p2 p3 X10) | (go_at_call 17; go_must (refine (same_calls on bad A6 A6 Q.length c6 c6 B10 B12 (watchQ on S key n).length d10 d12 _ _ _ _ Q (watchQ on S key n) _ (Kd.F_below HQ6.out HZ6.out) HF1.out (Kd.F_below HQ6.out HZ6.out) HF2.out hc6 hc1 hc6 hc2 (len_watch hS10) (by omega) (fun r hm => by have := hQr.out r hm; omega)).mono ?_); rintro e w7 ⟨rfl, hb7⟩; have HZ7 := Aside0.mk (step2 HZ6.out hb7); clear hb7 q0 q1 q2 q3 HF1 HF2 HZ5 HZ6 hc1 hc2))
  clear HZ
  have HZ := HZ7
  clear HZ7 t0 t1 t2 t3
  generalize w7 = wd at *
  have KS : ∀ W, Below wd.heap.size wd W → W.cell? ⟨g6, 0, none⟩ = some (.bool on) ∧ W.cell? ⟨g6, 1, none⟩ = some (.bool bad) ∧ W.cell? ⟨g6, 2, none⟩ = some (.slice A6 Q.length c6) ∧ W.cell? ⟨g6, 3, none⟩ = some (.slice B6 S.length d6) := fun W hb => cells4' (blk_below X6.out (step2 HZ.out hb))
  have KQ : ∀ W, Below wd.heap.size wd W → Kd.F kRows W anyB A6 Q.length Q := fun W hb => F_any HQ6.out (step2 HZ.out hb)
  have KV : ∀ W, Below wd.heap.size wd W → Kd.F kSeen W anyB B6 S.length S := fun W hb => F_any HS6.out (step2 HZ.out hb)
  have hQ1 : Q.length ≤ 1000 := by omega
  have hS1 : S.length ≤ 1000 := by omega
  have hQr1 : ∀ r ∈ Q, r.length ≤ 1000 := fun r hm => by have := hQr.out r hm; omega
  go_cut [25] (fun v25 W => v25 = .bool true ∧ Aside0 (Below wd.heap.size wd W))
  case first =>
    have HBW : Below wd.heap.size wd wd.drew := (Below.refl _ _).drew
    clear X3 X6 X7 HQ6 HS6 HQ7 HS7 HFA HFN ZM ZT hQr HZ HB4
    go_region_held3 (fun W => W.cell? ⟨g6, 0, none⟩ = some (.bool on) ∧ W.cell? ⟨g6, 1, none⟩ = some (.bool bad) ∧ W.cell? ⟨g6, 2, none⟩ = some (.slice A6 Q.length c6) ∧ W.cell? ⟨g6, 3, none⟩ = some (.slice B6 S.length d6))
      (with_reducible first | exact KS _ (Below.refl _ _) | exact KS _ HBW)
      (first | (go_at_call 11; go_loud (refine (spoil_calls on bad A6 Q.length c6 B6 S.length d6 _).mono ?_); rintro e w12 ⟨rfl, hb12⟩; have HBW := step2 HBW hb12) | (go_at_call 20; go_loud (refine (refSpoil_calls on bad A6 Q.length c6 B6 S.length d6 _).mono ?_); rintro e w13 ⟨rfl, hb13⟩; have HBW := step2 HBW hb13) | (go_at_call 14; go_loud (refine (forget_calls on bad A6 Q.length c6 B6 S.length d6 _).mono ?_); rintro e w14 ⟨rfl, hb14⟩; have HBW := step2 HBW hb14) | (go_at_call 21; go_loud (refine (refForget_calls on bad A6 Q.length c6 B6 S.length d6 _).mono ?_); rintro e w15 ⟨rfl, hb15⟩; have HBW := step2 HBW hb15) | (go_at_call 17; (with_reducible first | refine (same_calls on (bad || on) A6 A6 Q.length c6 c6 B6 B6 S.length d6 d6 _ _ _ _ Q S _ (KQ _ HBW) (KV _ HBW) (KQ _ HBW) (KV _ HBW) hc6 hd6 hc6 hd6 hS1 hQ1 hQr1).mono ?_ | refine (same_calls on bad A6 A6 Q.length c6 c6 none none 0 0 0 _ (fun _ => False) _ (fun _ => False) Q [] _ (KQ _ HBW) (Kd.F_nil _ _ _) (KQ _ HBW) (Kd.F_nil _ _ _) hc6 (Nat.le_refl _) hc6 (Nat.le_refl _) (Nat.zero_le _) hQ1 hQr1).mono ?_); rintro e w16 ⟨rfl, hb16⟩; have HBW := step2 HBW hb16))
    all_goals
      go_wp2_with fail
      go_meet
      exact ⟨rfl, ⟨HBW⟩⟩
  case rest =>
    obtain ⟨rfl, HBc⟩ := hcut
    have HZc := Aside0.mk (step2 HZ.out HBc.out)
    obtain ⟨p0, p1, p2, p3⟩ := KS _ HBc.out
    obtain ⟨q0, q1, q2, q3⟩ := cells4' (blk_below X7.out HZc.out)
    go_upto_region 17 with (go_at_call 17; go_must (refine (same_calls on bad A6 A7 Q.length c6 c7 B6 B7 S.length d6 d7 _ _ _ _ Q S _ (KQ _ HBc.out) (KV _ HBc.out) (Kd.F_below HQ7.out HZc.out) (Kd.F_below HS7.out HZc.out) hc6 hd6 hc7 hd7 hS1 hQ1 hQr1).mono ?_); rintro e w17 ⟨rfl, hb17⟩; have HBc := Aside0.mk (step2 HBc.out hb17); clear hb17 p0 p1 p2 p3 q0 q1 q2 q3)
    have KN : ∀ W, Below wd.heap.size wd W → Kd.F kSeen W okn An r M := fun W hb => Kd.F_below HFN.out (step2 HZ.out hb)
    have KD : ∀ W, Below wd.heap.size wd W → Below w.heap.size w W := fun W hb => step2 HB4.out (step2 HZ.out hb)
    have HBW : Below wd.heap.size wd w17.drew := HBc.out.drew
    have HB17 := HBc.out
    have hz1 := ZT.out
    have hz2 := ZM.out
    clear X3 X6 X7 HQ6 HS6 HQ7 HS7 HFA HFN ZM ZT hQr HZ HB4 HZc HBc
    obtain ⟨z, hz⟩ : ∃ z, z = !(S.any fun x => number M x.key != x.n) := ⟨_, rfl⟩
    cases on
    · go_region_held3 (fun W => W.cell? ⟨g6, 0, none⟩ = some (.bool false) ∧ W.cell? ⟨g6, 1, none⟩ = some (.bool bad) ∧ W.cell? ⟨g6, 2, none⟩ = some (.slice A6 Q.length c6) ∧ W.cell? ⟨g6, 3, none⟩ = some (.slice B6 S.length d6))
        (with_reducible first | exact KS _ HB17 | exact KS _ HBW)
        (first | (go_at_call 13; go_loud (refine (fresh_calls _ bad A6 Q.length c6 B6 S.length d6 An r cn _ _ S M _ (KV _ HBW) (KN _ HBW) hz1 hz2).mono ?_); rw [← hz]; rintro e w18 ⟨rfl, hb18⟩; have HBW := step2 HBW hb18) | (go_at_call 22; go_loud (refine (refFresh_calls _ bad A6 Q.length c6 B6 S.length d6 An r cn _ _ _ Q S M _ (KQ _ HBW) (KV _ HBW) (KN _ HBW) hc6 hd6 hr3 hM20 hS1).mono ?_); rw [← hz]; rintro e w19 ⟨rfl, hb19⟩; have HBW := step2 HBW hb19))
      all_goals
        go_wp2_with fail
        go_ret
        exact ⟨rfl, KD _ HBW⟩
    · go_region_held3 (fun W => W.cell? ⟨g6, 0, none⟩ = some (.bool true) ∧ W.cell? ⟨g6, 1, none⟩ = some (.bool bad) ∧ W.cell? ⟨g6, 2, none⟩ = some (.slice A6 Q.length c6) ∧ W.cell? ⟨g6, 3, none⟩ = some (.slice B6 S.length d6))
        (with_reducible first | exact KS _ HB17 | exact KS _ HBW)
        (first | (go_at_call 13; go_loud (refine (fresh_calls _ bad A6 Q.length c6 B6 S.length d6 An r cn _ _ S M _ (KV _ HBW) (KN _ HBW) hz1 hz2).mono ?_); rw [← hz]; rintro e w18 ⟨rfl, hb18⟩; have HBW := step2 HBW hb18) | (go_at_call 22; go_loud (refine (refFresh_calls _ bad A6 Q.length c6 B6 S.length d6 An r cn _ _ _ Q S M _ (KQ _ HBW) (KV _ HBW) (KN _ HBW) hc6 hd6 hr3 hM20 hS1).mono ?_); rw [← hz]; rintro e w19 ⟨rfl, hb19⟩; have HBW := step2 HBW hb19))
      all_goals
        go_wp2_with fail
        go_ret
        exact ⟨rfl, KD _ HBW⟩
end Go.Proofs.Ytbjhpmifjiibaaa.T
