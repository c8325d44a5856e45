/- Readings of the transaction records, and the contracts of the small functions over them: whatever the memory holds, at every order. -/
import Derived.Test.YtbjhpmifjiibaaaProg
import Derived.Test.YtbjhpmifjiibaaaWMore
import Derived.Test.YtbjhpmifjiibaaaWNEv
import Derived.WalkKit
import Derived.WalkSpells
import Derived.Outline
import Derived.Lib.Hide
namespace Go.Proofs.Ytbjhpmifjiibaaa.T
open Go.RowKit Go.Proofs.YtbjhpmifjiibaaaW.PrintWords
set_option linter.unusedVariables false
set_option linter.unusedSimpArgs false

structure SeenD where
  key : ByteArray
  n : Int
def kSeen : Kd SeenD := Kd.iso (Kd.pair Kd.string (Kd.int .i64)) (fun x : SeenD => (x.key, x.n))
abbrev kRows : Kd (List ByteArray) := Kd.slice 9 Kd.string
abbrev tx (on bad : Bool) (Aq : Option Addr) (nq cq : Nat) (As : Option Addr) (ns cs : Nat) : Value := .agg #[.bool on, .bool bad, .slice Aq nq cq, .slice As ns cs]

theorem info9 : (Try.prog.info? 9).map (fun i => (i.zero, i.size, i.bytes)) = some (some (.string ⟨#[]⟩), 1, 16) := by kernel_rfl
theorem info30 : (Try.prog.info? 30).map (fun i => (i.zero, i.size, i.bytes)) = some (some (.slice none 0 0), 1, 24) := by kernel_rfl
theorem info36 : (Try.prog.info? 36).map (fun i => (i.zero, i.size, i.bytes)) = some (some (.agg #[(.string ⟨#[]⟩), (.int .i64 0)]), 2, 24) := by kernel_rfl

/-- The row has another block than what lies below. -/
theorem ne_own {k B : Nat} {v : Value} (hk : k < B) (h : ∀ j, v.ownBlock = some j → B ≤ j) : some k ≠ v.ownBlock := fun e => by
  have := h k e.symm; omega

/-- Of elements that lead to nothing only the row's own block is needed. -/
theorem N_flat {α : Type} {d : Kd α} (hd : ∀ (W W' : World) (x : α) (c : List Value), d.K W x c → d.K W' x c) {e : Nat} {w : World} {base : Nat} {ok ok' : Nat → Prop} {v : Value} {xs : List α} (h : d.N e w base ok v xs) (ho : ∀ k, v.ownBlock = some k → ok' k) : d.N e w base ok' v xs := by
  obtain ⟨_, rows, hl, hR, hf⟩ := h
  exact ⟨ho, rows, hl, hR, fun j x c hx hc => fun W' _ => hd _ _ _ _ (Kd.FK_now (hf j x c hx hc))⟩
theorem flat_string : ∀ (W W' : World) (x : ByteArray) (c : List Value), Kd.string.K W x c → Kd.string.K W' x c := fun _ _ _ _ h => h
theorem flat_seen : ∀ (W W' : World) (x : SeenD) (c : List Value), kSeen.K W x c → kSeen.K W' x c := fun _ _ _ _ h => h
/-- Two steps. -/
theorem step2 {w W w1 : World} (h : Below w.heap.size w W) (hb : Below W.heap.size W w1) : Below w.heap.size w w1 := below_then h h.size hb

set_option maxHeartbeats 1000000 in
theorem clone_texts (A : Option Addr) (n c : Nat) (ok : Nat → Prop) (xs : List ByteArray) (w : World) (h : Kd.F Kd.string w ok A n xs) (hn : n * 16 ≤ 140737488355328) :
    Calls Try.prog 24 #[.slice A n c] w fun e w' => ∃ A' c', e = .returned (.slice A' xs.length c') ∧ Aside0 (Kd.N Kd.string 9 w' w.heap.size (fun k => w.heap.size ≤ k) (.slice A' xs.length c') xs) ∧ Below w.heap.size w w' := by
  have qT : ∀ (w : World) (a : Option Addr) (n c n' c' : Nat), (binOp .eql 30 (.slice a n c) (.slice none n' c')).run Try.prog w = .ok (.bool a.isNone) w := fun w a n c n' c' => Lib.run_eql_slice_nil w _ _ a n c n' c' Try.underlying30
  have HF := Aside0.mk h
  clear h
  cases A with
  | none =>
    have hx : xs = [] := by
      have h1 := Kd.F_now HF.out
      cases n with
      | zero => exact List.eq_nil_of_length_eq_zero h1.1
      | succ n => obtain ⟨ad, he, _⟩ := h1.2.2 (by omega); cases he
    subst hx
    go_enter Try.func24, Try.ntmps24
    go_wp2
    go_ret
    exact ⟨_, _, rfl, ⟨Kd.N_nil _ _ _ _ _⟩, Below.refl _ _⟩
  | some a =>
    go_enter Try.func24, Try.ntmps24
    go_wp2_with (first | ((with_reducible refine gate_dst (N := 5) rfl ?_); go_must (refine Kd.N_lit Kd.string (w0 := w) w.heap.size 9 rfl (N' := 5) rfl (xs := ([] : List ByteArray)) (inner := []) (ok := fun k => ok k ∨ w.heap.size ≤ k) (okp := fun _ => False) ?hr (Reps.none _ _) (fun _ hk => hk.elim) (.inr (Nat.le_refl _)) (Below.refl _ _) (Nat.le_refl _) (by simp) ?_; (case hr => first | (go_simp; done) | (go_simp; rfl))); intro v1 w1 hN hb _ hv; have HN := Aside0.mk hN; have HB := Aside0.mk hb; have HV := Aside0.mk (show ∀ j, v1.ownBlock = some j → w.heap.size ≤ j from fun j hj => by obtain ⟨b, hb1, hb2⟩ := hv; rw [hb1] at hj; injection hj with hj; omega); clear hN hb hv) | ((with_reducible refine gate_builtin (b := .append) (xs := #[.tmp 5, .tmp 6]) rfl ?_); at_builtin; refine Kd.N_append_rows Kd.string (w0 := w) w.heap.size rfl (.tmp 5) (.tmp 6) 30 9 (.string ⟨#[]⟩) 16 rfl Try.underlying30 info9 rfl (by decide) (by decide) v1 [] xs (some a) n c (fun k => ok k ∨ w.heap.size ≤ k) (fun k => ok k ∧ k < w.heap.size) rfl rfl HN.out (Kd.F_old HF.out HB.out) (fun k hk => ⟨.inl hk.1, ne_own hk.2 HV.out⟩) (fun k hk => .inr (Nat.le_trans HB.out.size hk)) HB.out HB.out.size (by simpa using Nat.le_trans hn (by decide)) ?_; intro v2 w2 hN2 hb2 _ _; have HN2 := Aside0.mk hN2; have HB2 := Aside0.mk hb2; clear hN2 hb2))
    go_ret
    obtain ⟨A2, c2, rfl⟩ := Kd.N_slice HN2.out
    exact ⟨A2, c2, rfl, ⟨N_flat flat_string HN2.out (Kd.N_base HN2.out)⟩, HB2.out⟩


theorem watchIs (key : ByteArray) (x : SeenD) (b : Nat) (w : World) (hk : w.cell? ⟨b, 0, none⟩ = some (.string key)) :
    Calls Try.prog 25 #[.agg #[.string x.key, .int .i64 x.n], .pointer (some ⟨b, 0, none⟩)] w fun e w' => e = .returned (.bool (x.key.toList == key.toList)) ∧ Below w.heap.size w w' := by
  have hlt := World.block_lt_of_cell? w _ hk
  have hk1 : ∀ o : Obj, (w.alloc o).cell? ⟨b, 0, none⟩ = some (.string key) := fun o => pw_cell_below (below_alloc (Below.refl _ _) o) hk
  go_enter Try.func25, Try.ntmps25
  go_wp2
  go_ret
  exact ⟨rfl, below_alloc (Below.refl _ _) _⟩

theorem ret_i64 {a b : Int} (h : a = b) : Ending.returned (.int .i64 a) = .returned (.int .i64 b) := by rw [h]
theorem ret_bool {a b : Bool} (h : a = b) : Ending.returned (.bool a) = .returned (.bool b) := by rw [h]
/-- Where the first one stands of which p holds; -1. -/
def idx {α : Type} (p : α → Bool) (xs : List α) : Int := match xs.findIdx? p with | some i => i | none => -1
theorem idx_hit {α : Type} (p : α → Bool) (xs : List α) (k : Nat) (hk : k < xs.length) (h : p xs[k] = true) (hn : ∀ j (hj : j < k), p (xs[j]'(by omega)) = false) : idx p xs = k := by
  unfold idx
  rw [List.findIdx?_eq_some_iff_getElem.2 ⟨hk, h, fun j hj => by simp [hn j hj]⟩]
theorem idx_miss {α : Type} (p : α → Bool) (xs : List α) (hn : ∀ j (hj : j < xs.length), p xs[j] = false) : idx p xs = -1 := by
  unfold idx
  rw [List.findIdx?_eq_none_iff.2 (fun x hx => by obtain ⟨j, hj, rfl⟩ := List.mem_iff_getElem.1 hx; exact hn j hj)]

/-- An element's cells. -/
theorem seen_at {w : World} {ok : Nat → Prop} {A : Option Addr} {n : Nat} {xs : List SeenD} (h : Kd.F kSeen w ok A n xs) (k : Nat) (hk : k < n) :
    ∃ (ad : Addr) (hl : k < xs.length), A = some ad ∧ w.cell? (ad.add (k * 2)) = some (.string xs[k].key) ∧ w.cell? ⟨(ad.add (k * 2)).block, (ad.add (k * 2)).off + 1, none⟩ = some (.int .i64 xs[k].n) := by
  have hn := Kd.F_len h
  obtain ⟨ad, c, e, _, hK, hc0⟩ := Kd.C_get (Kd.F_now h) (⟨⟨#[]⟩, 0⟩ : SeenD) (k : Int) (by omega) (by omega)
  have hl : k < xs.length := by omega
  have hc : ∀ j u, c[j]? = some u → w.cell? (ad.add (k * 2 + j)) = some u := hc0
  rw [Int.toNat_natCast, List.getD_eq_getElem?_getD, List.getElem?_eq_getElem hl, Option.getD_some] at hK
  obtain ⟨_, _, rfl, rfl, rfl⟩ := hK
  exact ⟨ad, hl, e, hc 0 _ rfl, by rw [← add_field _ _ 1 (by omega)]; exact hc 1 _ rfl⟩

set_option maxHeartbeats 1000000 in
theorem index25 (key : ByteArray) (b : Nat) (A : Option Addr) (n c : Nat) (ok : Nat → Prop) (xs : List SeenD) (w : World) (h : Kd.F kSeen w ok A n xs) (hk : w.cell? ⟨b, 0, none⟩ = some (.string key)) :
    Calls Try.prog 30 #[.slice A n c, .func (.func 25) #[] #[.pointer (some ⟨b, 0, none⟩)]] w fun e w' => e = .returned (.int .i64 (idx (fun x : SeenD => x.key.toList == key.toList) xs)) ∧ Below w.heap.size w w' := by
  have hn := Kd.F_len h
  have hmax := Kd.F_max h
  have HF := Aside0.mk h
  have HK := Aside0.mk hk
  have HN := Aside0.mk hn
  clear h hk hn
  go_enter Try.func30, Try.ntmps30
  go_wp2_with fail
  go_loopw [8] (fun i wr => ∃ k : Nat, k ≤ n ∧ i = .int .i64 k ∧ Aside0 (Below w.heap.size w wr) ∧ Aside0 (∀ j (hj : j < xs.length), j < k → (xs[j].key.toList == key.toList) = false)) (fun i _ => n - (intOf i).toNat)
  case atStart => exact ⟨0, Nat.zero_le _, rfl, ⟨Below.refl _ _⟩, ⟨fun j _ hj => absurd hj (Nat.not_lt_zero _)⟩⟩
  case round =>
    obtain ⟨k, hkn, rfl, HB, HA⟩ := hrel
    by_cases hlt : k < n
    · obtain ⟨ad, hl, rfl, c0, c1⟩ := seen_at (Kd.F_below HF.out HB.out) k hlt
      have HC := Aside0.mk (pw_cell_below HB.out HK.out)
      cases hp : (xs[k].key.toList == key.toList)
      · have HP := Aside0.mk hp
        clear hp
        go_wp2_with (go_at_call 25; refine (watchIs key xs[k] b _ HC.out).mono ?_; rintro e w1 ⟨rfl, hb1⟩; rw [HP.out]; have HB1 := Aside0.mk (HB.out.trans (hb1.mono HB.out.size)); clear hb1)
        go_roundw
        case rel => exact ⟨k + 1, by omega, by go_num, HB1, ⟨fun j hj hlt' => by
          rcases Nat.lt_succ_iff_lt_or_eq.1 hlt' with h1 | h1
          · exact HA.out j hj h1
          · subst h1; exact HP.out⟩⟩
        case measure => simp [intOf]; omega
      · have HP := Aside0.mk hp
        clear hp
        go_wp2_with (go_at_call 25; refine (watchIs key xs[k] b _ HC.out).mono ?_; rintro e w1 ⟨rfl, hb1⟩; rw [HP.out]; have HB1 := Aside0.mk (HB.out.trans (hb1.mono HB.out.size)); clear hb1)
        go_ret
        exact ⟨ret_i64 (idx_hit _ xs k hl HP.out (fun j hj => HA.out j (by omega) hj)).symm, HB1.out⟩
    · go_wp2_with fail
      go_ret
      exact ⟨ret_i64 (idx_miss _ xs (fun j hj => HA.out j hj (by have := HN.out; omega))).symm, HB.out⟩
end Go.Proofs.Ytbjhpmifjiibaaa.T
