/- The reference's Small: what it comes to, as lists. -/
import Derived.Test.YtbjhpmifjiibaaaSmallP
import Derived.Test.YtbjhpmifjiibaaaT8
namespace Go.Proofs.Ytbjhpmifjiibaaa.T
open Go.RowKit Go.Maps Go.Proofs.YtbjhpmifjiibaaaW.PrintWords Go.Proofs.YtbjhpmifjiibaaaW.PrintMore PTxEnds
set_option linter.unusedVariables false
set_option linter.unusedSimpArgs false

def smallQ (qs : List (List ByteArray)) : List (List ByteArray) := (qs.take 10).map (·.take 10)
theorem mn_take {α : Type} (l : List α) : l.take (mn (l.length : Int) 10).toNat = l.take 10 := by
  unfold mn
  split
  · rfl
  · have : (l.length : Int).toNat = l.length := by omega
    rw [this, List.take_of_length_le (Nat.le_refl _), List.take_of_length_le (by omega)]
theorem mn_ge {n : Nat} : 0 ≤ mn (n : Int) 10 := by unfold mn; split <;> omega
theorem mn_le {n : Nat} : mn (n : Int) 10 ≤ n := by unfold mn; split <;> omega
theorem small_tail {α β : Type} (ss : List α) (r : List α → β) : (if 0 ≤ mn (ss.length : Int) 10 then (if mn (ss.length : Int) 10 ≤ (ss.length : Int) then ((some (ss.take (mn (ss.length : Int) 10 : Int).toNat : List α)).bind fun y => (if ([] : List α).length + y.length < 5864062014805 then some (r ([] ++ y)) else none)) else none) else none) = some (r (ss.take 10)) := by
  rw [if_pos mn_ge, if_pos mn_le, mn_take, Option.bind_some, if_pos (by simp; omega)]
  rfl
theorem small_l0 (a b : Bool) (qs : List (List ByteArray)) (ss : List S36) (c d : Bool) : ∀ (m i : Nat) (acc : List (List ByteArray)), i + m = 10 → acc.length ≤ i →
    tipstaffref21_Small.l0 (m + 1) (i : Int) a b qs ss c d acc = some (c, d, acc ++ ((qs.drop i).take m).map (·.take 10), ss.take 10)
  | 0, i, acc, hi, hacc => by
    have h10 : ¬ ((i : Int) < 10) := by omega
    unfold tipstaffref21_Small.l0
    rw [if_neg h10]
    have ht := small_tail ss (fun y => (c, d, acc, y))
    simp only [List.take_zero, List.map_nil, List.append_nil]
    split <;> exact ht
  | m + 1, i, acc, hi, hacc => by
    have h10 : (i : Int) < 10 := by omega
    have ht := small_tail ss (fun y => (c, d, acc, y))
    unfold tipstaffref21_Small.l0
    by_cases hl : (i : Int) < (qs.length : Int)
    · have hln : i < qs.length := by omega
      have hrd : rd_L1 qs i = qs[i] := by unfold rd_L1; rw [Int.toNat_natCast, List.getD_eq_getElem?_getD, List.getElem?_eq_getElem hln]; rfl
      rw [if_pos hl, if_pos h10, Option.bind_some, if_pos (by omega), hrd, if_pos mn_ge, if_pos mn_le, mn_take, if_pos (by simp; omega), if_pos (by omega)]
      have hw : wrap64 ((i : Int) + 1) = ((i + 1 : Nat) : Int) := by unfold wrap64; omega
      rw [hw, small_l0 a b qs ss c d m (i + 1) (acc ++ [[] ++ qs[i].take 10]) (by omega) (by simp; omega), List.drop_eq_getElem_cons hln, List.take_succ_cons, List.map_cons]
      simp
    · rw [if_neg hl, List.drop_eq_nil_of_le (by omega)]
      simp only [List.take_nil, List.map_nil, List.append_nil]
      exact ht
theorem small_f (a b : Bool) (qs : List (List ByteArray)) (ss : List S36) : tipstaffref21_Small.f 11 a b qs ss = some (a, b, smallQ qs, ss.take 10) := by
  have h := small_l0 a b qs ss a b 10 0 [] rfl (by simp)
  exact h
def conv (s : SeenD) : S36 := ⟨s.key, s.n⟩
def back (s : S36) : SeenD := ⟨s.f0, s.f1⟩
theorem C_conv {W : World} {A : Option Addr} {n : Nat} {xs : List SeenD} (h : kSeen.C W A n xs) : k36.C W A n (xs.map conv) :=
  ⟨by rw [List.length_map]; exact h.1, h.2.1, fun hn => by
    obtain ⟨a, e, hc⟩ := h.2.2 hn
    refine ⟨a, e, fun j p hj => ?_⟩
    rw [List.getElem?_map] at hj
    obtain ⟨x, hx, rfl⟩ := Option.map_eq_some_iff.1 hj
    exact hc j x hx⟩
theorem C_back {W : World} {A : Option Addr} {n : Nat} {xs : List S36} (h : k36.C W A n xs) : kSeen.C W A n (xs.map back) :=
  ⟨by rw [List.length_map]; exact h.1, h.2.1, fun hn => by
    obtain ⟨a, e, hc⟩ := h.2.2 hn
    refine ⟨a, e, fun j p hj => ?_⟩
    rw [List.getElem?_map] at hj
    obtain ⟨x, hx, rfl⟩ := Option.map_eq_some_iff.1 hj
    exact hc j x hx⟩
theorem back_conv (ss : List SeenD) : ((ss.map conv).take 10).map back = ss.take 10 := by
  rw [List.map_take, List.map_map]
  have : (back ∘ conv) = id := rfl
  rw [this, List.map_id]
theorem small_calls (on bad : Bool) (Aq : Option Addr) (nq cq : Nat) (As : Option Addr) (ns cs : Nat) (okq oks : Nat → Prop) (qs : List (List ByteArray)) (ss : List SeenD) (w : World) (hq : Kd.F kRows w okq Aq nq qs) (hs : Kd.F kSeen w oks As ns ss) (hcq : nq ≤ cq) (hcs : ns ≤ cs) :
    Calls Try.prog 15 #[tx on bad Aq nq cq As ns cs] w fun e w' => ∃ A' c' B' d', e = .returned (tx on bad A' (smallQ qs).length c' B' (ss.take 10).length d') ∧ Aside0 (Kd.F kRows w' (fun _ => True) A' (smallQ qs).length (smallQ qs)) ∧ Aside0 (Kd.F kSeen w' (fun _ => True) B' (ss.take 10).length (ss.take 10)) ∧ (smallQ qs).length ≤ c' ∧ (ss.take 10).length ≤ d' ∧ Below w.heap.size w w' := by
  obtain rfl := Kd.F_len hq
  obtain rfl := Kd.F_len hs
  have hC := C_conv (Kd.F_now hs)
  have hl : (ss.map conv).length = ss.length := List.length_map _
  have h := tipstaffref21_Small.calls 11 on bad Aq cq qs As cs (ss.map conv) on bad (smallQ qs) ((ss.map conv).take 10) w (Kd.F_now hq) hcq (by rw [hl]; exact hC) (by rw [hl]; exact hcs) (small_f _ _ _ _)
  rw [hl] at h
  refine h.mono fun e w' ⟨v2, v3, he, hS, hR, hb⟩ => ?_
  obtain ⟨A', c', rfl⟩ := Kd.S_slice hS
  obtain ⟨B', d', rfl⟩ := Kd.R_slice hR
  have h2 := (Kd.S_reads' hS).2.1
  have h3 := (Kd.R_reads' hR).2.1
  have h1 : ((ss.map conv).take 10).length = (ss.take 10).length := by simp
  have hF := Kd.R_F hR
  rw [h1] at he hF h3
  refine ⟨A', c', B', d', he, ⟨Kd.S_F hS⟩, ⟨?_⟩, h2, h3, hb⟩
  refine Kd.F_imp hF fun W' hC' => ?_
  have := C_back hC'
  rw [back_conv] at this
  exact this
end Go.Proofs.Ytbjhpmifjiibaaa.T
