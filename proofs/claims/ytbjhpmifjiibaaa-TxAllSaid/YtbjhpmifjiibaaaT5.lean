/- tx.Fresh: whether each key that is seen has the number that the first of the others has, in whatever memory. -/
import Derived.Test.YtbjhpmifjiibaaaT4
namespace Go.Proofs.Ytbjhpmifjiibaaa.T
open Go.RowKit Go.Maps Go.Proofs.YtbjhpmifjiibaaaW.PrintWords
set_option linter.unusedVariables false
set_option linter.unusedSimpArgs false

theorem number_none {l : List SeenD} {key : ByteArray} (h : there l key = false) : number l key = 0 := by
  unfold number
  have : l.find? (fun s => s.key.toList == key.toList) = none := by
    rw [List.find?_eq_none]
    intro x hx
    unfold there at h
    rw [List.any_eq_false] at h
    exact h x hx
  rw [this]
theorem there_key {l : List SeenD} {a b : ByteArray} (h : (a.toList == b.toList) = true) : there l a = there l b := by
  unfold there
  rw [eq_of_beq h]
abbrev klit (key : ByteArray) : Lit := .string key.data.toList
theorem klit_eq {a b : ByteArray} : klit a = klit b ↔ (a.toList == b.toList) = true := by
  rw [ByteArray.toList_eq, ByteArray.toList_eq, beq_iff_eq]
  exact ⟨fun h => by injection h, fun h => by rw [klit, klit, h]⟩
/-- What a map tells that has one key more, which it had not. -/
theorem put_tells {D : DataW Unit} (hm : IsMap D) {l : List SeenD} (s : SeenD) (h : ∀ key : ByteArray, Maps.has D (klit key) = there l key ∧ D.atKey (klit key) (.lit (.int .i64 0)) = .lit (.int .i64 (number l key))) (hno : there l s.key = false) :
    ∀ key : ByteArray, Maps.has (D.put (klit s.key) (.lit (.int .i64 s.n))) (klit key) = there (l ++ [s]) key ∧ (D.put (klit s.key) (.lit (.int .i64 s.n))).atKey (klit key) (.lit (.int .i64 0)) = .lit (.int .i64 (number (l ++ [s]) key)) := by
  intro key
  rw [there_snoc, number_snoc]
  cases e : (s.key.toList == key.toList)
  · have hne : klit key ≠ klit s.key := fun h => by
      have := klit_eq.1 h.symm
      rw [e] at this
      cases this
    rw [has_put_other hne, atKey_put_other hne, (h key).1, (h key).2]
    refine ⟨by simp, ?_⟩
    cases h2 : there l key
    · rw [number_none h2]; rfl
    · rfl
  · have he : klit s.key = klit key := klit_eq.2 e
    have h2 : there l key = false := by rw [← there_key e]; exact hno
    rw [he, has_put_same hm (by simp [klit, WideAt.IsKeyLit]), atKey_put_same hm (by simp [klit, WideAt.IsKeyLit]), h2]
    exact ⟨rfl, rfl⟩
theorem snoc_there {l : List SeenD} {s : SeenD} (h : there l s.key = true) (key : ByteArray) : there (l ++ [s]) key = there l key ∧ number (l ++ [s]) key = number l key := by
  rw [there_snoc, number_snoc]
  cases e : (s.key.toList == key.toList)
  · refine ⟨by simp, ?_⟩
    cases h2 : there l key
    · rw [number_none h2]; rfl
    · rfl
  · have h2 : there l key = true := by rw [← there_key e]; exact h
    rw [h2]
    exact ⟨rfl, rfl⟩
theorem Numbers.again {W : World} {B : Nat} {l : List SeenD} (h : Numbers W B l) {s : SeenD} (hs : there l s.key = true) : Numbers W B (l ++ [s]) := by
  obtain ⟨n, D, hown, hn, hD⟩ := h.out
  refine ⟨n, D, hown, by rw [List.length_append]; omega, fun key => ?_⟩
  rw [(snoc_there hs key).1, (snoc_there hs key).2]
  exact hD key
theorem take_snoc {α : Type} (l : List α) (k : Nat) (h : k < l.length) : l.take (k + 1) = l.take k ++ [l[k]] := by rw [List.take_succ_eq_append_getElem h]

set_option maxHeartbeats 1000000 in
set_option maxRecDepth 100000 in
theorem fresh_calls (on bad : Bool) (Aq : Option Addr) (nq cq : Nat) (As : Option Addr) (ns cs : Nat) (An : Option Addr) (nn cn : Nat) (oks okn : Nat → Prop) (seen now : List SeenD) (w : World)
    (hs : Kd.F kSeen w oks As ns seen) (hn : Kd.F kSeen w okn An nn now) (zs : ∀ x ∈ seen, x.key.size ≤ maxLen) (zn : ∀ x ∈ now, x.key.size ≤ maxLen ∧ (Lit.int .i64 x.n).wf = true) :
    Calls Try.prog 13 #[tx on bad Aq nq cq As ns cs, .slice An nn cn] w fun e w' => e = .returned (.bool !(seen.any fun x => number now x.key != x.n)) ∧ Below w.heap.size w w' := by
  have hmm := @run_makeMap Try.prog
  have hmax := Kd.F_max hn
  have HS := Aside0.mk hs
  have HN := Aside0.mk hn
  have HL := Aside0.mk (Kd.F_len hn)
  have ZS := Aside0.mk zs
  have ZN := Aside0.mk zn
  clear hs hn zs zn
  go_enter Try.func13, Try.ntmps13
  go_wp2_with fail
  go_loopw [14] (fun i wr => ∃ k : Nat, k ≤ nn ∧ i = .int .i64 k ∧ w.heap.size + 2 < wr.heap.size ∧ Aside0 (Below w.heap.size w wr) ∧ Aside0 (wr.heap[w.heap.size]? = some (.cells #[.bool on, .bool bad, .slice Aq nq cq, .slice As ns cs] 26 (0, 0))) ∧ Aside0 (wr.heap[w.heap.size + 2]? = some (.cells #[.map (some (w.heap.size + 1))] 49 (0, 0))) ∧ Aside0 (Numbers wr (w.heap.size + 1) (now.take k))) (fun i _ => nn - (intOf i).toNat)
  case atStart =>
    refine ⟨0, Nat.zero_le _, rfl, by simp, ⟨below_alloc (below_alloc (below_alloc (Below.refl _ _) _) _) _⟩, ⟨blk_alloc (blk_alloc (blk_new w _) _) _⟩, ⟨?_⟩, ⟨?_⟩⟩
    · simpa using blk_new ((w.alloc (.cells #[.bool on, .bool bad, .slice Aq nq cq, .slice As ns cs] 26)).alloc (.map #[] 0)) (.cells #[.map (some (w.heap.size + 1))] 49)
    · have h := (Numbers.made (w.alloc (.cells #[.bool on, .bool bad, .slice Aq nq cq, .slice As ns cs] 26))).below (below_alloc (Below.refl _ _) (.cells #[.map (some (w.heap.size + 1))] 49))
      simpa using h
  case round =>
    obtain ⟨k, hkn, rfl, hsz, HB, HX, HY, HM⟩ := hrel
    by_cases hlt : k < nn
    · obtain ⟨ad, hl, rfl, c0, c1⟩ := seen_at (Kd.F_below HN.out HB.out) k hlt
      have c5 : ∀ o : Obj, (wr.alloc o).cell? ⟨w.heap.size + 2, 0, none⟩ = some (.map (some (w.heap.size + 1))) := fun o => (blk_cell (blk_alloc HY.out o) 0).trans rfl
      have zk := (ZN.out _ (List.getElem_mem hl)).1
      have zw := (ZN.out _ (List.getElem_mem hl)).2
      obtain ⟨n, D, hown, hnl, hD⟩ := HM.out.out
      have HO := Aside0.mk hown
      have HD := Aside0.mk hD
      have hnm : n ≤ k := Nat.le_trans hnl (List.length_take_le k now)
      clear hnl
      clear hown hD
      cases ht : there (now.take k) now[k].key
      · have hd1 := (HD.out now[k].key).1.trans ht
        have HD1 := Aside0.mk hd1
        have HTT := Aside0.mk ht
        clear hd1 ht
        go_wp2_with (first | (at_lookup; refine wpList_lookup_own_ok_int _ rfl _ _ 49 rfl 9 3 .i64 law9 Try.underlying49 Try.underlying3 (zero3 _) (w.heap.size + 1) n D rfl (HO.out.alloc _) _ _ rfl (WideMaps.keyOf_string_mk Try.underlying9 zk) ?_; rw [HD1.out]; intro c hat _; clear hat) | (at_mapUpdate; go_must (refine wpList_mapUpdate_own _ rfl _ _ _ 49 rfl 9 3 law9 Try.underlying49 (plainElem Try.prog 3) (w.heap.size + 1) n D rfl (HO.out.alloc _) (by unfold maxLen; omega) _ _ _ rfl rfl (WideMaps.keyOf_string_mk Try.underlying9 zk) _ [] (plainElem_int Try.underlying3 zw) ?_); intro w1 hown1 hgrow1; have HO1 := Aside0.mk hown1; have HG1 := Aside0.mk hgrow1; clear hown1 hgrow1))
        go_roundw
        case rel => exact ⟨k + 1, by omega, by go_num, Nat.lt_of_lt_of_le hsz (Nat.le_trans (by simp) HG1.out.size), ⟨(below_alloc HB.out _).grown HG1.out (by simp; omega) (fun j hj => by injection hj with hj; omega)⟩, ⟨blk_grown (blk_alloc HX.out _) HG1.out (fun e => by injection e with e; omega)⟩, ⟨blk_grown (blk_alloc HY.out _) HG1.out (fun e => by injection e with e; omega)⟩, ⟨by rw [take_snoc now k hl]; exact ⟨n + 1, _, HO1.out, by rw [List.length_append, List.length_take, Nat.min_eq_left (Nat.le_of_lt hl)]; simp; omega, put_tells HO.out.isMap now[k] HD.out HTT.out⟩⟩⟩
        case measure => simp [intOf]; omega
      · have hd1 := (HD.out now[k].key).1.trans ht
        have HD1 := Aside0.mk hd1
        have HTT := Aside0.mk ht
        clear hd1 ht
        go_wp2_with (at_lookup; refine wpList_lookup_own_ok_int _ rfl _ _ 49 rfl 9 3 .i64 law9 Try.underlying49 Try.underlying3 (zero3 _) (w.heap.size + 1) n D rfl (HO.out.alloc _) _ _ rfl (WideMaps.keyOf_string_mk Try.underlying9 zk) ?_; rw [HD1.out]; intro c hat _; clear hat)
        go_roundw
        case rel => exact ⟨k + 1, by omega, by go_num, Nat.lt_of_lt_of_le hsz (by simp), ⟨below_alloc HB.out _⟩, ⟨blk_alloc HX.out _⟩, ⟨blk_alloc HY.out _⟩, ⟨by rw [take_snoc now k hl]; exact (HM.out.below (below_alloc (Below.refl _ _) _)).again HTT.out⟩⟩
        case measure => simp [intOf]; omega
    · have hk : k = nn := by omega
      have hnow : now.take k = now := List.take_of_length_le (by have := HL.out; omega)
      have hM := HM.out
      rw [hnow] at hM
      have HM := Aside0.mk hM
      obtain ⟨x0, x1, x2, x3, xf⟩ := cells4 HX.out
      have HY0 := Aside0.mk ((blk_cell HY.out 0).trans rfl)
      clear hM hk hnow
      have hmf : ∀ (fn : Fn) (first cap : Array Value) (w : World), (Instr.makeFunc fn first cap).run Try.prog w = .ok (.func fn first cap) w := fun _ _ _ _ => rfl
      go_wp2_with (go_at_call 26; go_must (refine (contains28 now (w.heap.size + 2) (w.heap.size + 1) As ns cs oks seen _ (Kd.F_below HS.out HB.out) HY0.out HM.out ZS.out).mono ?_); rintro e w1 ⟨rfl, hb1⟩; have HB1 := Aside0.mk (step2 HB.out hb1); clear hb1)
      go_ret
      exact ⟨rfl, HB1.out⟩

end Go.Proofs.Ytbjhpmifjiibaaa.T
