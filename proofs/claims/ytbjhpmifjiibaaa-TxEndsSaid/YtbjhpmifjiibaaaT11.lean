/- What is watched, as a list of records; and tx.Watch by that, in whatever memory. -/
import Derived.Test.YtbjhpmifjiibaaaT10
namespace Go.Proofs.Ytbjhpmifjiibaaa.T
open Go.RowKit Go.Maps Go.Proofs.YtbjhpmifjiibaaaW.PrintWords
set_option linter.unusedVariables false
set_option linter.unusedSimpArgs false

/-- What is seen behind a key more that is watched. -/
def watchS (S : List SeenD) (key : ByteArray) (n : Int) : List SeenD := if there S key then S else S ++ [⟨key, n⟩]
theorem watch_off (bad : Bool) (Aq : Option Addr) (nq cq : Nat) (As : Option Addr) (ns cs : Nat) (oks : Nat → Prop) (xs : List SeenD) (key : ByteArray) (n : Int) (w : World)
    (hs : Kd.F kSeen w oks As ns xs) (hn : (ns + 1) * 24 ≤ 140737488355328) (hc : ns ≤ cs) :
    Calls Try.prog 12 #[tx false bad Aq nq cq As ns cs, .string key, .int .i64 n] w fun e w' => ∃ A' c', e = .returned (.tuple #[tx false bad Aq nq cq A' (watchS xs key n).length c', .bool true]) ∧ Aside0 (Kd.F kSeen w' (fun k => oks k ∨ w.heap.size ≤ k) A' (watchS xs key n).length (watchS xs key n)) ∧ (watchS xs key n).length ≤ c' ∧ Below w.heap.size w w' := by
  cases h : there xs key
  · refine (watch_more bad Aq nq cq As ns cs oks xs key n w hs h hn).mono fun e w' ⟨A', c', he, hF, hcc, hb⟩ => ?_
    have hw : watchS xs key n = xs ++ [⟨key, n⟩] := by unfold watchS; rw [h]; rfl
    have hl : (xs ++ [(⟨key, n⟩ : SeenD)]).length = ns + 1 := by rw [List.length_append, Kd.F_len hs]; rfl
    rw [hw, hl]
    exact ⟨A', c', he, ⟨Kd.F_mono hF.out fun k hk => .inr hk⟩, hcc, hb⟩
  · refine (watch_again bad Aq nq cq As ns cs oks xs key n w hs h).mono fun e w' ⟨he, hb⟩ => ?_
    have hw : watchS xs key n = xs := by unfold watchS; rw [h]; rfl
    rw [hw, Kd.F_len hs]
    exact ⟨As, cs, he, ⟨Kd.F_mono (Kd.F_below (Kd.F_bound hs) (hb.mono (Nat.le_refl _))) fun k hk => .inl hk.1⟩, hc, hb⟩

/-- A key that is watched, its number, and what its number is more, later. -/
structure Rec where
  key : ByteArray
  n : Int
  d : Int
def Rec.was (r : Rec) : SeenD := ⟨r.key, r.n⟩
def Rec.now (r : Rec) : SeenD := ⟨r.key, r.n + r.d⟩
structure Wat (ls : List ByteArray) (k : Nat) (R : List Rec) : Prop where
  each : ∀ r ∈ R, r.key.size ≤ maxLen ∧ 0 ≤ r.n ∧ r.n ≤ 100 ∧ (r.d = 0 ∨ r.d = 1)
  apart : R.Pairwise (fun a b => (a.key.toList == b.key.toList) = false)
  told : ∀ key : ByteArray, there (R.map Rec.was) key = (ls.take k).any (fun s => s.toList == key.toList)
theorem Wat.nil (ls : List ByteArray) : Wat ls 0 [] := ⟨by simp, .nil, fun key => rfl⟩
theorem Wat.again {ls : List ByteArray} {k : Nat} {R : List Rec} (h : Wat ls k R) (hk : k < ls.length) (ht : there (R.map Rec.was) ls[k] = true) : Wat ls (k + 1) R :=
  ⟨h.each, h.apart, fun key => by
    rw [take_snoc ls k hk, List.any_append, ← h.told key]
    cases e : (ls[k].toList == key.toList)
    · simp [e]
    · rw [← there_key e, ht]; rfl⟩
theorem Wat.more {ls : List ByteArray} {k : Nat} {R : List Rec} (h : Wat ls k R) (hk : k < ls.length) (hk8 : k < 8) (hz : ls[k].size ≤ maxLen) (d : Int) (hd : d = 0 ∨ d = 1) (ht : there (R.map Rec.was) ls[k] = false) : Wat ls (k + 1) (R ++ [⟨ls[k], 10 + k, d⟩]) := by
  refine ⟨fun r hr => ?_, ?_, fun key => ?_⟩
  · rcases List.mem_append.1 hr with h1 | h1
    · exact h.each r h1
    · obtain rfl := List.mem_singleton.1 h1
      exact ⟨hz, by show (0 : Int) ≤ 10 + k; omega, by show (10 : Int) + k ≤ 100; omega, hd⟩
  · rw [List.pairwise_append]
    refine ⟨h.apart, List.pairwise_singleton _ _, fun a ha b hb => ?_⟩
    obtain rfl := List.mem_singleton.1 hb
    unfold there at ht
    rw [List.any_eq_false] at ht
    have : ¬ (a.key.toList == ls[k].toList) = true := ht a.was (List.mem_map.2 ⟨a, ha, rfl⟩)
    simpa using this
  · rw [take_snoc ls k hk, List.any_append, List.map_append, ← h.told key, List.map_cons, List.map_nil, there_snoc]
    simp [Rec.was]
theorem number_mem : ∀ {L : List SeenD} {s : SeenD}, L.Pairwise (fun a b => (a.key.toList == b.key.toList) = false) → s ∈ L → number L s.key = s.n
  | x :: L, s, hp, hs => by
    rw [List.pairwise_cons] at hp
    unfold number
    rw [List.find?_cons]
    rcases List.mem_cons.1 hs with rfl | hs
    · simp
    · have := hp.1 s hs
      rw [this]
      exact number_mem hp.2 hs
theorem Wat.fresh_was {ls : List ByteArray} {k : Nat} {R : List Rec} (h : Wat ls k R) : ((R.map Rec.was).any fun x => number (R.map Rec.was) x.key != x.n) = false := by
  rw [List.any_eq_false]
  intro x hx
  rw [number_mem (List.pairwise_map.2 h.apart) hx]
  simp
theorem Wat.fresh_now {ls : List ByteArray} {k : Nat} {R : List Rec} (h : Wat ls k R) : ((R.map Rec.was).any fun x => number (R.map Rec.now) x.key != x.n) = R.any (fun r => r.d == 1) := by
  rw [List.any_map, Bool.eq_iff_iff, List.any_eq_true, List.any_eq_true]
  have hap : (R.map Rec.now).Pairwise (fun a b => (a.key.toList == b.key.toList) = false) := List.pairwise_map.2 h.apart
  have e : ∀ r ∈ R, (((fun x => number (R.map Rec.now) x.key != x.n) ∘ Rec.was) r = true ↔ (r.d == 1) = true) := fun r hr => by
    have h1 := number_mem hap (List.mem_map.2 ⟨r, hr, rfl⟩)
    show (number (R.map Rec.now) r.now.key != r.n) = true ↔ _
    rw [h1]
    have h2 := (h.each r hr).2.2.2
    simp [Rec.now]
    omega
  exact ⟨fun ⟨r, hr, h1⟩ => ⟨r, hr, (e r hr).1 h1⟩, fun ⟨r, hr, h1⟩ => ⟨r, hr, (e r hr).2 h1⟩⟩
end Go.Proofs.Ytbjhpmifjiibaaa.T
