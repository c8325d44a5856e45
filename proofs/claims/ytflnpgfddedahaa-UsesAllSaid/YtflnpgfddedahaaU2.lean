/- The table of what commands need: a map of function values, told by kinds. -/
import Derived.Test.YtflnpgfddedahaaU1
import Derived.Maps.OwnSet
import Derived.Maps.OwnOps
namespace Go.Proofs.Ytflnpgfddedahaa.U
open Go.RowKit Go.Great Go.Maps Go.Proofs.YtflnpgfddedahaaW.PrintWords
set_option linter.unusedVariables false
set_option linter.unusedSimpArgs false

/-- What a function value does with a need: kinds. -/
inductive NK where
  | one (r w : Bool)
  | each (s : Int) (r w : Bool)
  | fn (f : Nat)
  deriving DecidableEq
/-- The value that a kind has, in a memory. -/
def IsNeed (lo : Nat) : NK → Value → World → Prop
  | .one r w, v, W => ∃ b c : Addr, (lo ≤ b.block ∧ lo ≤ c.block) ∧ v = .agg #[.func (.func 64) #[] #[.pointer (some b), .pointer (some c)]] ∧ W.cell? b = some (.bool r) ∧ W.cell? c = some (.bool w)
  | .each s r w, v, W => ∃ a b c : Addr, (lo ≤ a.block ∧ lo ≤ b.block ∧ lo ≤ c.block) ∧ v = .agg #[.func (.func 63) #[] #[.pointer (some a), .pointer (some b), .pointer (some c)]] ∧ W.cell? a = some (.int .i64 s) ∧ W.cell? b = some (.bool r) ∧ W.cell? c = some (.bool w)
  | .fn f, v, W => v = .agg #[.func (.func f) #[] #[]]
theorem IsNeed.lower {lo lo' : Nat} {k : NK} {v : Value} {W : World} (h : IsNeed lo k v W) (hl : lo' ≤ lo) : IsNeed lo' k v W := by
  cases k with
  | one r w => obtain ⟨b, c, ⟨l1, l2⟩, e, h⟩ := h; exact ⟨b, c, ⟨Nat.le_trans hl l1, Nat.le_trans hl l2⟩, e, h⟩
  | each s r w => obtain ⟨a, b, c, ⟨l1, l2, l3⟩, e, h⟩ := h; exact ⟨a, b, c, ⟨Nat.le_trans hl l1, Nat.le_trans hl l2, Nat.le_trans hl l3⟩, e, h⟩
  | fn f => exact h
theorem IsNeed.kept {lo : Nat} {k : NK} {v : Value} {W W' : World} (h : IsNeed lo k v W) (hc : ∀ p x, W.cell? p = some x → W'.cell? p = some x) : IsNeed lo k v W' := by
  cases k with
  | one r w => obtain ⟨b, c, hl, e, h1, h2⟩ := h; exact ⟨b, c, hl, e, hc _ _ h1, hc _ _ h2⟩
  | each s r w => obtain ⟨a, b, c, hl, e, h1, h2, h3⟩ := h; exact ⟨a, b, c, hl, e, hc _ _ h1, hc _ _ h2, hc _ _ h3⟩
  | fn f => exact h
def heldR (v : Value) : Option (DataW Value × List MemPlace) := some (.held v, [])
/-- Block B is a map that has, for each name of K, a value of the name's kind (the first that K tells), and no other name. -/
structure NeedsAre (lo : Nat) (W : World) (B : Nat) (K : List (List UInt8 × NK)) (n : Nat) : Prop where
  out : ∃ D : DataW Value, W.ownsMap Try.prog 9 heldR B n D ∧ ∀ name : List UInt8, match K.lookup name with
    | none => Maps.has D (.string name) = false
    | some k => Maps.has D (.string name) = true ∧ ∃ v, (∀ z, D.atKey (.string name) z = .held v) ∧ IsNeed lo k v W
theorem NeedsAre.lt {lo : Nat} {W : World} {B n : Nat} {K : List (List UInt8 × NK)} (h : NeedsAre lo W B K n) : B < W.heap.size := by
  obtain ⟨D, ho, _⟩ := h.out
  exact ho.lt
theorem NeedsAre.made (lo : Nat) (W : World) : NeedsAre lo (W.alloc (.map #[] 0)) W.heap.size [] 0 :=
  ⟨.map [], World.ownsMap_made _ _ _ _, fun name => rfl⟩
theorem NeedsAre.kept {lo : Nat} {W W' : World} {B n : Nat} {K : List (List UInt8 × NK)} (h : NeedsAre lo W B K n) {row : Option Nat} (hg : W.grownBy W' row) (hne : some B ≠ row) (hc : ∀ p x, W.cell? p = some x → W'.cell? p = some x) : NeedsAre lo W' B K n := by
  obtain ⟨D, ho, hD⟩ := h.out
  refine ⟨D, ho.kept hg hne, fun name => ?_⟩
  have h1 := hD name
  split at h1
  · exact h1
  · obtain ⟨h2, v, h3, h4⟩ := h1
    exact ⟨h2, v, h3, h4.kept hc⟩
theorem NeedsAre.below {lo : Nat} {W W' : World} {B n : Nat} {K : List (List UInt8 × NK)} (h : NeedsAre lo W B K n) (hb : Below W.heap.size W W') : NeedsAre lo W' B K n :=
  h.kept (grown_of_below hb none) (by simp) (fun p x hp => pw_cell_below hb hp)
/-- A store of the map's own leaves all cells. -/
theorem cells_map {W W' : World} {B n : Nat} {D : DataW Value} (ho : W.ownsMap Try.prog 9 heldR B n D) (hg : W.grownBy W' (some B)) (p : Addr) (x : Value) (h : W.cell? p = some x) : W'.cell? p = some x := by
  refine hg.cell h (fun e => ?_)
  injection e with e
  obtain ⟨es, clock, hb, _⟩ := ho
  unfold World.cell? at h
  rw [e, hb] at h
  simp at h
theorem NeedsAre.put {lo : Nat} {W W' : World} {B n : Nat} {K : List (List UInt8 × NK)} {D : DataW Value} (name : List UInt8) (k : NK) (v : Value) (ho : W.ownsMap Try.prog 9 heldR B n D) (hD : ∀ name : List UInt8, match K.lookup name with
    | none => Maps.has D (.string name) = false
    | some k => Maps.has D (.string name) = true ∧ ∃ v, (∀ z, D.atKey (.string name) z = .held v) ∧ IsNeed lo k v W) (hv : IsNeed lo k v W)
    (ho' : W'.ownsMap Try.prog 9 heldR B (n + 1) (D.put (.string name) (.held v))) (hg : W.grownBy W' (some B)) : NeedsAre lo W' B ((name, k) :: K) (n + 1) := by
  have hc := cells_map ho hg
  refine ⟨_, ho', fun q => ?_⟩
  by_cases e : q = name
  · subst e
    rw [List.lookup_cons_self]
    exact ⟨has_put_same ho.isMap (show WideAt.IsKeyLit (.string q) from trivial) _, v, fun z => atKey_put_same ho.isMap (show WideAt.IsKeyLit (.string q) from trivial) _ _, hv.kept hc⟩
  · have hne : (Lit.string q) ≠ .string name := fun h => e (by injection h)
    have e2 : (q == name) = false := by simpa using e
    rw [List.lookup_cons, e2]
    have h1 := hD q
    show match K.lookup q with | none => _ | some k => _
    split at h1
    · rw [has_put_other hne]; exact h1
    · obtain ⟨h2, u, h3, h4⟩ := h1
      exact ⟨by rw [has_put_other hne]; exact h2, u, fun z => by rw [atKey_put_other hne]; exact h3 z, h4.kept hc⟩

section
variable {ops : Array Oper} {rest : List Oper} {o : Oper} {a : Act} {Q : Exit → Act → World → Prop}
/-- A store into the map, in a literal or by 'm[k] = v', as an arm of the walk. -/
theorem store_need {lo : Nat} (W : World) (hg : o.guard = none) (m x v : Operand) (hop : o.op = Op.insert 76 m x v ∨ o.op = Op.mapUpdate 76 m x v) (B n : Nat) (K : List (List UInt8 × NK))
    (hm : a.eval m = .map (some B)) (hN : NeedsAre lo W B K n) (hn : n < maxLen) (s : ByteArray) (hx : a.eval x = .string s) (hs : s.size ≤ maxLen) (k : NK) (val : Value) (hv : a.eval v = val) (hk : IsNeed lo k val W)
    (hK : ∀ W', NeedsAre lo W' B ((s.data.toList, k) :: K) (n + 1) → W.grownBy W' (some B) → Below B W W' → wpList Try.prog ops Q rest (a.put o.dst undef) W') :
    wpList Try.prog ops Q (o :: rest) a W := by
  refine wpList_plain hg fun K' hK' => ?_
  obtain ⟨D, ho, hD⟩ := hN.out
  obtain ⟨w', hrun, r1, r2⟩ := ho.update (string_keyed Try.underlying9) Try.underlying76 hn (WideMaps.keyOf_string_mk Try.underlying9 hs) (show heldR val = some (.held val, []) from rfl)
  have hb : Below B W w' := (Below.refl B W).grown r2 (Nat.le_of_lt ho.lt) (fun j hj => by injection hj with hj; omega)
  unfold Oper.wp
  rcases hop with hop | hop
  · simp [execOp, hop, hm, hx, hv, hrun, Result.andThen]
    exact hK' _ _ (hK w' (NeedsAre.put _ k val ho hD hk r1 r2) r2 hb)
  · simp [execOp, hop, hm, hx, hv, hrun, Result.andThen]
    exact hK' _ _ (hK w' (NeedsAre.put _ k val ho hD hk r1 r2) r2 hb)
end

theorem second_blk (w : World) (o : Obj) (cells : Array Value) (t : TypeId) : ((w.alloc o).alloc (.cells cells t)).heap[w.heap.size + 1]? = some (.cells cells t (0, 0)) := by
  have h := blk_new (w.alloc o) (.cells cells t)
  simpa using h
theorem third_blk (w : World) (o p : Obj) (cells : Array Value) (t : TypeId) : (((w.alloc o).alloc p).alloc (.cells cells t)).heap[w.heap.size + 1 + 1]? = some (.cells cells t (0, 0)) := by
  have h := blk_new ((w.alloc o).alloc p) (.cells cells t)
  simpa using h
set_option maxHeartbeats 1000000 in
theorem first_calls (r w : Bool) (W : World) : Calls Try.prog 60 #[.bool r, .bool w] W fun e W' => ∃ v, e = .returned v ∧ Aside0 (IsNeed W.heap.size (.one r w) v W') ∧ Below W.heap.size W W' := by
  have hmf : ∀ (fn : Fn) (first cap : Array Value) (w : World), (Instr.makeFunc fn first cap).run Try.prog w = .ok (.func fn first cap) w := fun _ _ _ _ => rfl
  go_enter Try.func60, Try.ntmps60
  have hst := fun (w : World) (a : Addr) (f : Fn) (x y : Array Value) => run_store Try.prog w a (.func f x y) .plain rfl
  go_wp2
  refine bodyPost_ret (v := .agg #[.func (.func 64) #[] #[.pointer (some ⟨W.heap.size, 0, none⟩), .pointer (some ⟨W.heap.size + 1, 0, none⟩)]]) (by simp [results, Try.results60, go_sem]) rfl ⟨_, rfl, ⟨_, _, ⟨Nat.le_refl _, Nat.le_succ _⟩, rfl, ?_, ?_⟩, ?_⟩
  · exact (blk_cell (blk_alloc (blk_alloc (blk_new W _) _) _) 0).trans rfl
  · exact (blk_cell (blk_alloc (second_blk W _ _ 4) _) 0).trans rfl
  · exact below_alloc (below_alloc (below_alloc (Below.refl _ _) _) _) _

set_option maxHeartbeats 1000000 in
theorem each_calls' (s : Int) (r w : Bool) (W : World) : Calls Try.prog 51 #[.int .i64 s, .bool r, .bool w] W fun e W' => ∃ v, e = .returned v ∧ Aside0 (IsNeed W.heap.size (.each s r w) v W') ∧ Below W.heap.size W W' := by
  have hmf : ∀ (fn : Fn) (first cap : Array Value) (w : World), (Instr.makeFunc fn first cap).run Try.prog w = .ok (.func fn first cap) w := fun _ _ _ _ => rfl
  have hst := fun (w : World) (a : Addr) (f : Fn) (x y : Array Value) => run_store Try.prog w a (.func f x y) .plain rfl
  go_enter Try.func51, Try.ntmps51
  go_wp2
  refine bodyPost_ret (v := .agg #[.func (.func 63) #[] #[.pointer (some ⟨W.heap.size, 0, none⟩), .pointer (some ⟨W.heap.size + 1, 0, none⟩), .pointer (some ⟨W.heap.size + 1 + 1, 0, none⟩)]]) (by simp [results, Try.results51, go_sem]) rfl ⟨_, rfl, ⟨_, _, _, ⟨Nat.le_refl _, Nat.le_succ _, Nat.le_add_right _ 2⟩, rfl, ?_, ?_, ?_⟩, ?_⟩
  · exact (blk_cell (blk_alloc (blk_alloc (blk_alloc (blk_new W _) _) _) _) 0).trans rfl
  · exact (blk_cell (blk_alloc (blk_alloc (second_blk W _ _ 4) _) _) 0).trans rfl
  · exact (blk_cell (blk_alloc (third_blk W _ _ _ 4) _) 0).trans rfl
  · exact below_alloc (below_alloc (below_alloc (below_alloc (Below.refl _ _) _) _) _) _
end Go.Proofs.Ytflnpgfddedahaa.U
