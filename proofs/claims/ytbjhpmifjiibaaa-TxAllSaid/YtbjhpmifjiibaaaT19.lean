/- The calls that TxAll holds side by side, each in one form, whether the record is begun or not. -/
import Derived.Test.YtbjhpmifjiibaaaT13
import Derived.Test.YtbjhpmifjiibaaaT17
import Derived.Test.YtbjhpmifjiibaaaT18
namespace Go.Proofs.Ytbjhpmifjiibaaa.T
open Go.RowKit Go.Maps Go.Proofs.YtbjhpmifjiibaaaW.PrintWords
set_option linter.unusedVariables false
set_option linter.unusedSimpArgs false

def beginQ (on : Bool) (qs : List (List ByteArray)) : List (List ByteArray) := if on then qs else []
def queueQ (on : Bool) (qs : List (List ByteArray)) (xs : List ByteArray) : List (List ByteArray) := if on then qs ++ [xs] else qs
def watchQ (on : Bool) (ss : List SeenD) (key : ByteArray) (n : Int) : List SeenD := if on then ss else watchS ss key n
abbrev anyB : Nat → Prop := fun _ => True
theorem F_any {α : Type} {d : Kd α} {W W' : World} {ok : Nat → Prop} {A : Option Addr} {n : Nat} {xs : List α} (h : Kd.F d W ok A n xs) (hb : Below W.heap.size W W') : Kd.F d W' anyB A n xs := Kd.F_mono (Kd.F_below h hb) fun _ _ => trivial
section
variable (on bad : Bool) (Aq : Option Addr) (cq : Nat) (As : Option Addr) (ns cs : Nat) {okq oks oka : Nat → Prop} (qs : List (List ByteArray)) (w : World)
theorem begin_any (hq : Kd.F kRows w okq Aq qs.length qs) (hc : qs.length ≤ cq) (f : Nat) (hf : Calls Try.prog f #[tx on bad Aq qs.length cq As ns cs] w fun e w' => e = .returned (.tuple #[if on then tx on bad Aq qs.length cq As ns cs else tx true false none 0 0 As ns cs, .bool !on]) ∧ Below w.heap.size w w') :
    Calls Try.prog f #[tx on bad Aq qs.length cq As ns cs] w fun e w' => ∃ A' c', e = .returned (.tuple #[tx true (on && bad) A' (beginQ on qs).length c' As ns cs, .bool !on]) ∧ Aside0 (Kd.F kRows w' anyB A' (beginQ on qs).length (beginQ on qs)) ∧ (beginQ on qs).length ≤ c' ∧ Below w.heap.size w w' := by
  refine hf.mono fun e w' ⟨he, hb⟩ => ?_
  cases on
  · exact ⟨none, 0, he, ⟨Kd.F_nil _ _ _⟩, Nat.le_refl _, hb⟩
  · exact ⟨Aq, cq, he, ⟨F_any hq hb⟩, hc, hb⟩
variable {Aa : Option Addr} {p ca : Nat} {xs : List ByteArray}
theorem queue9 (hq : Kd.F kRows w okq Aq qs.length qs) (hc : qs.length ≤ cq) (ha : Kd.F Kd.string w oka Aa p xs) (h1 : (qs.length + 1) * 24 ≤ 140737488355328) (h2 : p * 16 ≤ 140737488355328) :
    Calls Try.prog 9 #[tx on bad Aq qs.length cq As ns cs, .slice Aa p ca] w fun e w' => ∃ A' c', e = .returned (.tuple #[tx on bad A' (queueQ on qs xs).length c' As ns cs, .bool on]) ∧ Aside0 (Kd.F kRows w' anyB A' (queueQ on qs xs).length (queueQ on qs xs)) ∧ (queueQ on qs xs).length ≤ c' ∧ Below w.heap.size w w' := by
  cases on
  · exact (queue_off bad Aq qs.length cq As ns cs Aa p ca w).mono fun e w' ⟨he, hb⟩ => ⟨Aq, cq, he, ⟨F_any hq hb⟩, hc, hb⟩
  · refine (queue_on bad Aq qs.length cq As ns cs Aa p ca _ _ qs xs w hq ha h1 h2).mono fun e w' ⟨A', c', he, hF, hcc, hb⟩ => ?_
    have hl : (queueQ true qs xs).length = qs.length + 1 := by show (qs ++ [xs]).length = _; simp
    rw [hl]
    exact ⟨A', c', he, ⟨Kd.F_mono hF.out fun _ _ => trivial⟩, hcc, hb⟩
theorem queue18 (hq : Kd.F kRows w okq Aq qs.length qs) (hc : qs.length ≤ cq) (ha : Kd.F Kd.string w oka Aa p xs) (h1 : (qs.length + 1) * 24 ≤ 140737488355328) (h2 : p * 16 ≤ 140737488355328) :
    Calls Try.prog 18 #[tx on bad Aq qs.length cq As ns cs, .slice Aa p ca] w fun e w' => ∃ A' c', e = .returned (.tuple #[tx on bad A' (queueQ on qs xs).length c' As ns cs, .bool on]) ∧ Aside0 (Kd.F kRows w' anyB A' (queueQ on qs xs).length (queueQ on qs xs)) ∧ (queueQ on qs xs).length ≤ c' ∧ Below w.heap.size w w' := by
  cases on
  · exact (refQueue_off bad Aq qs.length cq As ns cs Aa p ca w).mono fun e w' ⟨he, hb⟩ => ⟨Aq, cq, he, ⟨F_any hq hb⟩, hc, hb⟩
  · refine (refQueue_on bad Aq qs.length cq As ns cs Aa p ca _ _ qs xs w hq ha h1 h2).mono fun e w' ⟨A', c', he, hF, hcc, hb⟩ => ?_
    have hl : (queueQ true qs xs).length = qs.length + 1 := by show (qs ++ [xs]).length = _; simp
    rw [hl]
    exact ⟨A', c', he, ⟨Kd.F_mono hF.out fun _ _ => trivial⟩, hcc, hb⟩
variable (nq : Nat) (ss : List SeenD) (key : ByteArray) (n : Int)
theorem watch12 (hs : Kd.F kSeen w oks As ss.length ss) (hc : ss.length ≤ cs) (h1 : (ss.length + 1) * 24 ≤ 140737488355328) :
    Calls Try.prog 12 #[tx on bad Aq nq cq As ss.length cs, .string key, .int .i64 n] w fun e w' => ∃ B' d', e = .returned (.tuple #[tx on bad Aq nq cq B' (watchQ on ss key n).length d', .bool !on]) ∧ Aside0 (Kd.F kSeen w' anyB B' (watchQ on ss key n).length (watchQ on ss key n)) ∧ (watchQ on ss key n).length ≤ d' ∧ Below w.heap.size w w' := by
  cases on
  · exact (watch_off bad Aq nq cq As ss.length cs _ ss key n w hs h1 hc).mono fun e w' ⟨A', c', he, hF, hcc, hb⟩ => ⟨A', c', he, ⟨Kd.F_mono hF.out fun _ _ => trivial⟩, hcc, hb⟩
  · exact (watch_on bad Aq nq cq As ss.length cs key n w).mono fun e w' ⟨he, hb⟩ => ⟨As, cs, he, ⟨F_any hs hb⟩, hc, hb⟩
theorem watch19 (hs : Kd.F kSeen w oks As ss.length ss) (hc : ss.length ≤ cs) (h1 : (ss.length + 1) * 24 ≤ 140737488355328) :
    Calls Try.prog 19 #[tx on bad Aq nq cq As ss.length cs, .string key, .int .i64 n] w fun e w' => ∃ B' d', e = .returned (.tuple #[tx on bad Aq nq cq B' (watchQ on ss key n).length d', .bool !on]) ∧ Aside0 (Kd.F kSeen w' anyB B' (watchQ on ss key n).length (watchQ on ss key n)) ∧ (watchQ on ss key n).length ≤ d' ∧ Below w.heap.size w w' := by
  cases on
  · exact (refWatch_off bad Aq nq cq As ss.length cs _ ss key n w hs h1 hc).mono fun e w' ⟨A', c', he, hF, hcc, hb⟩ => ⟨A', c', he, ⟨Kd.F_mono hF.out fun _ _ => trivial⟩, hcc, hb⟩
  · exact (refWatch_on bad Aq nq cq As ss.length cs key n w).mono fun e w' ⟨he, hb⟩ => ⟨As, cs, he, ⟨F_any hs hb⟩, hc, hb⟩
end
theorem len_begin {on : Bool} {qs : List (List ByteArray)} (h : qs.length ≤ 10) (hr : ∀ r ∈ qs, r.length ≤ 10) : (beginQ on qs).length ≤ 1000 ∧ ∀ r ∈ beginQ on qs, r.length ≤ 1000 := by
  cases on
  · exact ⟨by simp [beginQ], by simp [beginQ]⟩
  · exact ⟨by show qs.length ≤ 1000; omega, fun r hm => by have := hr r hm; omega⟩
theorem len_queue {on : Bool} {qs : List (List ByteArray)} {xs : List ByteArray} (h : qs.length ≤ 10) (hr : ∀ r ∈ qs, r.length ≤ 10) (hx : xs.length ≤ 10) : (queueQ on qs xs).length ≤ 1000 ∧ ∀ r ∈ queueQ on qs xs, r.length ≤ 1000 := by
  cases on
  · exact ⟨by show qs.length ≤ 1000; omega, fun r hm => by have := hr r hm; omega⟩
  · refine ⟨by show (qs ++ [xs]).length ≤ 1000; simp; omega, fun r hm => ?_⟩
    rcases List.mem_append.1 hm with h1 | h1
    · have := hr r h1; omega
    · obtain rfl := List.mem_singleton.1 h1; omega
theorem len_watch {on : Bool} {ss : List SeenD} {key : ByteArray} {n : Int} (h : ss.length ≤ 10) : (watchQ on ss key n).length ≤ 1000 := by
  cases on
  · show (watchS ss key n).length ≤ 1000
    unfold watchS
    split
    · omega
    · rw [List.length_append]; simp; omega
  · show ss.length ≤ 1000
    omega
theorem small_len (qs : List (List ByteArray)) : (smallQ qs).length ≤ 10 ∧ ∀ r ∈ smallQ qs, r.length ≤ 10 := by
  refine ⟨by simp [smallQ]; omega, fun r hr => ?_⟩
  obtain ⟨x, _, rfl⟩ := List.mem_map.1 hr
  simp
  omega
end Go.Proofs.Ytbjhpmifjiibaaa.T
