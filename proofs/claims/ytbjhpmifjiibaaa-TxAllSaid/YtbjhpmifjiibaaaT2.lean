/- The search by a closure, tx.Watch's and tx.Fresh's: what is told of any keys that are read, in whatever memory. -/
import Derived.Test.YtbjhpmifjiibaaaT1
import Derived.Maps.OwnSet
import Derived.Maps.OwnOps
namespace Go.Proofs.Ytbjhpmifjiibaaa.T
open Go.RowKit Go.Maps Go.Proofs.YtbjhpmifjiibaaaW.PrintWords
set_option linter.unusedVariables false
set_option linter.unusedSimpArgs false

/-- The number of a key: that of the first; 0. -/
def number (l : List SeenD) (key : ByteArray) : Int := match l.find? (fun s => s.key.toList == key.toList) with | some s => s.n | none => 0
def there (l : List SeenD) (key : ByteArray) : Bool := l.any (fun s => s.key.toList == key.toList)
theorem there_snoc (l : List SeenD) (s : SeenD) (key : ByteArray) : there (l ++ [s]) key = (there l key || s.key.toList == key.toList) := by simp [there]
theorem number_snoc (l : List SeenD) (s : SeenD) (key : ByteArray) : number (l ++ [s]) key = if there l key then number l key else if s.key.toList == key.toList then s.n else 0 := by
  unfold number there
  rw [List.find?_append]
  cases h : l.find? (fun s => s.key.toList == key.toList) with
  | some x =>
    have : l.any (fun s => s.key.toList == key.toList) = true := by
      rw [List.any_eq_true]
      exact ⟨x, List.mem_of_find?_eq_some h, by have := List.find?_some h; exact this⟩
    simp [this]
  | none =>
    have : l.any (fun s => s.key.toList == key.toList) = false := by
      rw [List.any_eq_false]
      intro x hx
      have := List.find?_eq_none.1 h x hx
      exact this
    simp only [this, Option.none_or, List.find?_cons, List.find?_nil]
    cases s.key.toList == key.toList <;> rfl
/-- Block B is a map from keys to numbers that tells what l tells. -/
structure Numbers (W : World) (B : Nat) (l : List SeenD) : Prop where
  out : ∃ n, ∃ D : DataW Unit, W.ownsMap Try.prog 9 (plainElem Try.prog 3) B n D ∧ n ≤ l.length ∧ ∀ key : ByteArray, Maps.has D (.string key.data.toList) = there l key ∧ D.atKey (.string key.data.toList) (.lit (.int .i64 0)) = .lit (.int .i64 (number l key))
theorem Numbers.kept {W W1 : World} {B : Nat} {l : List SeenD} (h : Numbers W B l) {row : Option Nat} (hg : W.grownBy W1 row) (hne : some B ≠ row) : Numbers W1 B l := by
  obtain ⟨n, D, hown, r⟩ := h.out
  exact ⟨n, D, hown.kept hg hne, r⟩
theorem Numbers.below {W W1 : World} {B : Nat} {l : List SeenD} (h : Numbers W B l) (hb : Below W.heap.size W W1) : Numbers W1 B l := h.kept (grown_of_below hb none) (by simp)
theorem Numbers.lt {W : World} {B : Nat} {l : List SeenD} (h : Numbers W B l) : B < W.heap.size := by
  obtain ⟨n, D, hown, r⟩ := h.out
  exact hown.lt
theorem Numbers.made (W : World) : Numbers (W.alloc (.map #[] 0)) W.heap.size [] := ⟨0, .map [], World.ownsMap_made _ _ _ _, Nat.le_refl _, fun key => ⟨rfl, rfl⟩⟩

theorem zero3 (w : World) : (zeroValue 3).run Try.prog w = .ok (.int .i64 0) w := by kernel_rfl
theorem law9 : Keyed Try.prog 9 := string_keyed Try.underlying9

/-- Fresh's closure: is the number of the key another one? -/
theorem freshOther (now : List SeenD) (x : SeenD) (b B : Nat) (w : World) (hx : x.key.size ≤ maxLen) (hk : w.cell? ⟨b, 0, none⟩ = some (.map (some B))) (hN : Numbers w B now) :
    Calls Try.prog 28 #[.agg #[.string x.key, .int .i64 x.n], .pointer (some ⟨b, 0, none⟩)] w fun e w' => e = .returned (.bool (number now x.key != x.n)) ∧ Below w.heap.size w w' := by
  have hk1 : ∀ o : Obj, (w.alloc o).cell? ⟨b, 0, none⟩ = some (.map (some B)) := fun o => pw_cell_below (below_alloc (Below.refl _ _) o) hk
  obtain ⟨n, D, hown, _, hD⟩ := hN.out
  have HO := Aside0.mk hown
  have HD := Aside0.mk (hD x.key).2
  clear hown hD hN
  go_enter Try.func28, Try.ntmps28
  go_wp2_with (at_lookup; go_must (refine wpList_lookup_own_int _ rfl _ _ 49 rfl 9 3 .i64 law9 Try.underlying49 Try.underlying3 (zero3 _) B n D rfl (HO.out.alloc _) _ _ rfl (Go.WideMaps.keyOf_string_mk Try.underlying9 hx) ?_); intro c hat _; rw [HD.out] at hat; obtain rfl : number now x.key = c := by injection hat with hat; injection hat)
  go_ret
  exact ⟨rfl, below_alloc (Below.refl _ _) _⟩
set_option maxHeartbeats 1000000 in
theorem index28 (now : List SeenD) (b B : Nat) (A : Option Addr) (n c : Nat) (ok : Nat → Prop) (xs : List SeenD) (w : World) (h : Kd.F kSeen w ok A n xs) (hk : w.cell? ⟨b, 0, none⟩ = some (.map (some B))) (hN : Numbers w B now) (hs : ∀ x ∈ xs, x.key.size ≤ maxLen) :
    Calls Try.prog 30 #[.slice A n c, .func (.func 28) #[] #[.pointer (some ⟨b, 0, none⟩)]] w fun e w' => e = .returned (.int .i64 (idx (fun x : SeenD => number now x.key != x.n) xs)) ∧ Below w.heap.size w w' := by
  have hn := Kd.F_len h
  have hmax := Kd.F_max h
  have HF := Aside0.mk h
  have HK := Aside0.mk hk
  have HM := Aside0.mk hN
  have HS := Aside0.mk hs
  have HN := Aside0.mk hn
  clear h hk hn hN hs
  go_enter Try.func30, Try.ntmps30
  go_wp2_with fail
  go_loopw [8] (fun i wr => ∃ k : Nat, k ≤ n ∧ i = .int .i64 k ∧ Aside0 (Below w.heap.size w wr) ∧ Aside0 (∀ j (hj : j < xs.length), j < k → (number now xs[j].key != xs[j].n) = false)) (fun i _ => n - (intOf i).toNat)
  case atStart => exact ⟨0, Nat.zero_le _, rfl, ⟨Below.refl _ _⟩, ⟨fun j _ hj => absurd hj (Nat.not_lt_zero _)⟩⟩
  case round =>
    obtain ⟨k, hkn, rfl, HB, HA⟩ := hrel
    by_cases hlt : k < n
    · obtain ⟨ad, hl, rfl, c0, c1⟩ := seen_at (Kd.F_below HF.out HB.out) k hlt
      have HC := Aside0.mk (pw_cell_below HB.out HK.out)
      cases hp : (number now xs[k].key != xs[k].n)
      · have HP := Aside0.mk hp
        clear hp
        go_wp2_with (go_at_call 28; refine (freshOther now xs[k] b B _ (HS.out _ (List.getElem_mem hl)) HC.out (HM.out.below HB.out)).mono ?_; rintro e w1 ⟨rfl, hb1⟩; rw [HP.out]; have HB1 := Aside0.mk (HB.out.trans (hb1.mono HB.out.size)); clear hb1)
        go_roundw
        case rel => exact ⟨k + 1, by omega, by go_num, HB1, ⟨fun j hj hlt' => by
          rcases Nat.lt_succ_iff_lt_or_eq.1 hlt' with h1 | h1
          · exact HA.out j hj h1
          · subst h1; exact HP.out⟩⟩
        case measure => simp [intOf]; omega
      · have HP := Aside0.mk hp
        clear hp
        go_wp2_with (go_at_call 28; refine (freshOther now xs[k] b B _ (HS.out _ (List.getElem_mem hl)) HC.out (HM.out.below HB.out)).mono ?_; rintro e w1 ⟨rfl, hb1⟩; rw [HP.out]; have HB1 := Aside0.mk (HB.out.trans (hb1.mono HB.out.size)); clear hb1)
        go_ret
        exact ⟨ret_i64 (idx_hit _ xs k hl HP.out (fun j hj => HA.out j (by omega) hj)).symm, HB1.out⟩
    · go_wp2_with fail
      go_ret
      exact ⟨ret_i64 (idx_miss _ xs (fun j hj => HA.out j hj (by have := HN.out; omega))).symm, HB.out⟩

theorem idx_none {α : Type} (p : α → Bool) (xs : List α) (h : xs.any p = false) : idx p xs = -1 :=
  idx_miss p xs (fun j hj => by rw [List.any_eq_false] at h; simpa using h _ (List.getElem_mem hj))
theorem idx_some {α : Type} (p : α → Bool) (xs : List α) (h : xs.any p = true) : ∃ k : Nat, idx p xs = k := by
  unfold idx
  cases e : xs.findIdx? p with
  | some k => exact ⟨k, rfl⟩
  | none =>
    rw [List.findIdx?_eq_none_iff] at e
    rw [List.any_eq_true] at h
    obtain ⟨x, hx, hp⟩ := h
    rw [e x hx] at hp
    cases hp

set_option maxHeartbeats 1000000 in
theorem contains25 (key : ByteArray) (b : Nat) (A : Option Addr) (n c : Nat) (ok : Nat → Prop) (xs : List SeenD) (w : World) (h : Kd.F kSeen w ok A n xs) (hk : w.cell? ⟨b, 0, none⟩ = some (.string key)) :
    Calls Try.prog 26 #[.slice A n c, .func (.func 25) #[] #[.pointer (some ⟨b, 0, none⟩)]] w fun e w' => e = .returned (.bool (xs.any (fun x : SeenD => x.key.toList == key.toList))) ∧ Below w.heap.size w w' := by
  cases hp : xs.any (fun x : SeenD => x.key.toList == key.toList)
  · have hi := idx_none _ xs hp
    have HI := Aside0.mk hi
    clear hi hp
    go_enter Try.func26, Try.ntmps26
    go_wp2_with (go_at_call 30; refine (index25 key b A n c ok xs _ h hk).mono ?_; rintro e w1 ⟨rfl, hb1⟩; rw [HI.out]; have HB1 := Aside0.mk hb1; clear hb1)
    go_ret
    exact ⟨ret_bool (by decide), HB1.out⟩
  · obtain ⟨k, hi⟩ := idx_some _ xs hp
    have HI := Aside0.mk hi
    clear hi hp
    go_enter Try.func26, Try.ntmps26
    go_wp2_with (go_at_call 30; refine (index25 key b A n c ok xs _ h hk).mono ?_; rintro e w1 ⟨rfl, hb1⟩; rw [HI.out]; have HB1 := Aside0.mk hb1; clear hb1)
    go_ret
    exact ⟨ret_bool (by simp), HB1.out⟩

set_option maxHeartbeats 1000000 in
theorem contains28 (now : List SeenD) (b B : Nat) (A : Option Addr) (n c : Nat) (ok : Nat → Prop) (xs : List SeenD) (w : World) (h : Kd.F kSeen w ok A n xs) (hk : w.cell? ⟨b, 0, none⟩ = some (.map (some B))) (hN : Numbers w B now) (hs : ∀ x ∈ xs, x.key.size ≤ maxLen) :
    Calls Try.prog 26 #[.slice A n c, .func (.func 28) #[] #[.pointer (some ⟨b, 0, none⟩)]] w fun e w' => e = .returned (.bool (xs.any (fun x : SeenD => number now x.key != x.n))) ∧ Below w.heap.size w w' := by
  cases hp : xs.any (fun x : SeenD => number now x.key != x.n)
  · have hi := idx_none _ xs hp
    have HI := Aside0.mk hi
    clear hi hp
    go_enter Try.func26, Try.ntmps26
    go_wp2_with (go_at_call 30; refine (index28 now b B A n c ok xs _ h hk hN hs).mono ?_; rintro e w1 ⟨rfl, hb1⟩; rw [HI.out]; have HB1 := Aside0.mk hb1; clear hb1)
    go_ret
    exact ⟨ret_bool (by decide), HB1.out⟩
  · obtain ⟨k, hi⟩ := idx_some _ xs hp
    have HI := Aside0.mk hi
    clear hi hp
    go_enter Try.func26, Try.ntmps26
    go_wp2_with (go_at_call 30; refine (index28 now b B A n c ok xs _ h hk hN hs).mono ?_; rintro e w1 ⟨rfl, hb1⟩; rw [HI.out]; have HB1 := Aside0.mk hb1; clear hb1)
    go_ret
    exact ⟨ret_bool (by simp), HB1.out⟩

end Go.Proofs.Ytbjhpmifjiibaaa.T
