/- table.Find: the first command whose name is the text in small letters. -/
import Derived.Test.YtflnpgfddedahaaC2
import Derived.Test.YtflnpgfddedahaaL2
namespace Go.Proofs.Ytflnpgfddedahaa.U
open Go.RowKit Go.Proofs.YtflnpgfddedahaaW.PrintWords
set_option linter.unusedVariables false
set_option linter.unusedSimpArgs false

/-- Where the first one stands of which p holds; -1. -/
def idx {α : Type} (p : α → Bool) (xs : List α) : Int := match xs.findIdx? p with | some i => i | none => -1
theorem idx_hit {α : Type} (p : α → Bool) (xs : List α) (k : Nat) (hk : k < xs.length) (h : p xs[k] = true) (hn : ∀ j (hj : j < k), p (xs[j]'(by omega)) = false) : idx p xs = k := by
  unfold idx
  rw [List.findIdx?_eq_some_iff_getElem.2 ⟨hk, h, fun j hj => by simp [hn j hj]⟩]
theorem idx_miss {α : Type} (p : α → Bool) (xs : List α) (hn : ∀ j (hj : j < xs.length), p xs[j] = false) : idx p xs = -1 := by
  unfold idx
  rw [List.findIdx?_eq_none_iff.2 (fun x hx => by obtain ⟨j, hj, rfl⟩ := List.mem_iff_getElem.1 hx; exact hn j hj)]
theorem idx_cases {α : Type} (p : α → Bool) (xs : List α) : idx p xs = -1 ∨ ∃ k : Nat, k < xs.length ∧ idx p xs = k := by
  unfold idx
  cases e : xs.findIdx? p with
  | none => exact .inl rfl
  | some k =>
    have := (List.findIdx?_eq_some_iff_getElem.1 e).1
    exact .inr ⟨k, this, rfl⟩
theorem ret_i64 {a b : Int} (h : a = b) : Ending.returned (.int .i64 a) = .returned (.int .i64 b) := by rw [h]

theorem isName (key : ByteArray) (x : CmdD) (b : Nat) (w : World) (hk : w.cell? ⟨b, 0, none⟩ = some (.string key)) :
    Calls Try.prog 37 #[cmdV x, .pointer (some ⟨b, 0, none⟩)] w fun e w' => e = .returned (.bool (x.name.toList == key.toList)) ∧ Below w.heap.size w w' := by
  have hlt := World.block_lt_of_cell? w _ hk
  have hk1 : ∀ o : Obj, (w.alloc o).cell? ⟨b, 0, none⟩ = some (.string key) := fun o => pw_cell_below (below_alloc (Below.refl _ _) o) hk
  go_enter Try.func37, Try.ntmps37
  go_wp2
  go_ret
  exact ⟨rfl, below_alloc (Below.refl _ _) _⟩

set_option maxHeartbeats 1000000 in
theorem index_calls (key : ByteArray) (b : Nat) (A : Option Addr) (n c : Nat) (ok : Nat → Prop) (xs : List CmdD) (w : World) (h : Kd.F kCmd w ok A n xs) (hk : w.cell? ⟨b, 0, none⟩ = some (.string key)) :
    Calls Try.prog 36 #[.slice A n c, .func (.func 37) #[] #[.pointer (some ⟨b, 0, none⟩)]] w fun e w' => e = .returned (.int .i64 (idx (fun x : CmdD => x.name.toList == key.toList) xs)) ∧ Below w.heap.size w w' := by
  have hn := Kd.F_len h
  have hmax := Kd.F_max h
  have HF := Aside0.mk h
  have HK := Aside0.mk hk
  have HN := Aside0.mk hn
  clear h hk hn
  go_enter Try.func36, Try.ntmps36
  go_wp2_with fail
  go_loopw [8] (fun i wr => ∃ k : Nat, k ≤ n ∧ i = .int .i64 k ∧ Aside0 (Below w.heap.size w wr) ∧ Aside0 (∀ j (hj : j < xs.length), j < k → (xs[j].name.toList == key.toList) = false)) (fun i _ => n - (intOf i).toNat)
  case atStart => exact ⟨0, Nat.zero_le _, rfl, ⟨Below.refl _ _⟩, ⟨fun j _ hj => absurd hj (Nat.not_lt_zero _)⟩⟩
  case round =>
    obtain ⟨k, hkn, rfl, HB, HA⟩ := hrel
    by_cases hlt : k < n
    · obtain ⟨ad, hl, rfl, c0, c1, c2⟩ := cmd_at (Kd.F_below HF.out HB.out) k hlt
      have HC := Aside0.mk (pw_cell_below HB.out HK.out)
      cases hp : (xs[k].name.toList == key.toList)
      · have HP := Aside0.mk hp
        clear hp
        go_wp2_with (go_at_call 37; refine (isName key xs[k] b _ HC.out).mono ?_; rintro e w1 ⟨rfl, hb1⟩; rw [HP.out]; have HB1 := Aside0.mk (HB.out.trans (hb1.mono HB.out.size)); clear hb1)
        go_roundw
        case rel => exact ⟨k + 1, by omega, by go_num, HB1, ⟨fun j hj hlt' => by
          rcases Nat.lt_succ_iff_lt_or_eq.1 hlt' with h1 | h1
          · exact HA.out j hj h1
          · subst h1; exact HP.out⟩⟩
        case measure => simp [intOf]; omega
      · have HP := Aside0.mk hp
        clear hp
        go_wp2_with (go_at_call 37; refine (isName key xs[k] b _ HC.out).mono ?_; rintro e w1 ⟨rfl, hb1⟩; rw [HP.out]; have HB1 := Aside0.mk (HB.out.trans (hb1.mono HB.out.size)); clear hb1)
        go_ret
        exact ⟨ret_i64 (idx_hit _ xs k hl HP.out (fun j hj => HA.out j (by omega) hj)).symm, HB1.out⟩
    · go_wp2_with fail
      go_ret
      exact ⟨ret_i64 (idx_miss _ xs (fun j hj => HA.out j hj (by have := HN.out; omega))).symm, HB.out⟩

/-- A text in small letters. -/
def lowS (s : ByteArray) : ByteArray := ⟨(lower s.data.toList).toArray⟩
/-- The id of a name; -1. -/
def findI (s : ByteArray) : Int := idx (fun x : CmdD => x.name.toList == (lowS s).toList) TABLE
theorem findI_cases (s : ByteArray) : findI s = -1 ∨ ∃ k : Nat, k < 56 ∧ findI s = k := idx_cases _ _

set_option maxHeartbeats 1000000 in
theorem find_calls (s : ByteArray) (w : World) (hs : s.size ≤ 140737488351232) :
    Calls Try.prog 14 #[.string s] w fun e w' => e = .returned (.tuple #[.int .i64 (findI s), .bool (decide (0 ≤ findI s))]) ∧ Below w.heap.size w w' := by
  have hmf : ∀ (fn : Fn) (first cap : Array Value) (w : World), (Instr.makeFunc fn first cap).run Try.prog w = .ok (.func fn first cap) w := fun _ _ _ _ => rfl
  rcases findI_cases s with hi | ⟨k, hk, hi⟩
  all_goals
    have HI := Aside0.mk hi
    clear hi
    go_enter Try.func14, Try.ntmps14
    go_wp2_with (first | (go_at_call 15; refine (lower_calls s _ hs).mono ?_; rintro e w1 ⟨rfl, hb1⟩; have HX := Aside0.mk (blk_below (blk_new w (.cells #[.string s] 9)) hb1); have c0 := (blk_cell HX.out 0).trans rfl; have f0 := blk_frozen HX.out 0; have HB := Aside0.mk ((step2 (below_alloc (Below.refl _ _) _) hb1).setCell (p := ⟨w.heap.size, 0, none⟩) (Nat.le_refl _) (.string (lowS s))); have HX1 := Aside0.mk ((blk_set HX.out 0 (.string (lowS s))).trans rfl); clear hb1) | (go_at_call 35; refine (commands_calls _).mono ?_; rintro e w2 ⟨A, c, rfl, HF, hb2⟩; have HC := Aside0.mk ((blk_cell (blk_below HX1.out hb2) 0).trans rfl); have HB2 := Aside0.mk (step2 HB.out hb2); clear hb2) | (go_at_call 36; go_must (refine (index_calls (lowS s) w.heap.size A 56 c _ TABLE _ HF.out HC.out).mono ?_); rintro e w3 ⟨rfl, hb3⟩; rw [show idx (fun x : CmdD => x.name.toList == (lowS s).toList) TABLE = _ from HI.out]; have HB3 := Aside0.mk (step2 HB2.out hb3); clear hb3))
    go_ret2
    exact ⟨by rw [HI.out]; first | rfl | (simp; done), HB3.out⟩
end Go.Proofs.Ytflnpgfddedahaa.U
