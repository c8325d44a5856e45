/- What each kind does with a need. -/
import Derived.Test.YtflnpgfddedahaaU3
namespace Go.Proofs.Ytflnpgfddedahaa.U
open Go.RowKit Go.Great Go.Proofs.YtflnpgfddedahaaW.PrintWords
set_option linter.unusedVariables false
set_option linter.unusedSimpArgs false

/-- Block g is a need with these keys, without channels. -/
structure KeysAt (W : World) (g base : Nat) (c : Int) (keys : List UseD) (aR aW : Bool) : Prop where
  out : ∃ v, W.heap[g]? = some (needB c v aR aW (.slice none 0 0)) ∧ Kd.N kUse 56 W base (fun k => base ≤ k) v keys
/-- Block g is a need. -/
structure NeedAt (W : World) (g base : Nat) (c : Int) (keys : List UseD) (aR aW : Bool) (chans : List ByteArray) : Prop where
  out : ∃ v u, W.heap[g]? = some (needB c v aR aW u) ∧ Kd.N kUse 56 W base (fun k => base ≤ k) v keys ∧ Kd.N Kd.string 9 W base (fun k => base ≤ k) u chans
theorem KeysAt.need {W : World} {g base : Nat} {c : Int} {keys : List UseD} {aR aW : Bool} (h : KeysAt W g base c keys aR aW) : NeedAt W g base c keys aR aW [] := by
  obtain ⟨v, h1, h2⟩ := h.out
  exact ⟨v, _, h1, h2, Kd.N_nil _ _ _ _ _⟩
theorem KeysAt.fresh {W : World} {g : Nat} {c : Int} (base : Nat) (h : W.heap[g]? = some (needB c (.slice none 0 0) false false (.slice none 0 0))) : KeysAt W g base c [] false false := ⟨_, h, Kd.N_nil _ _ _ _ _⟩
/-- All below base but block g is as it was. -/
def Kept1 (W W' : World) (g base : Nat) : Prop := ∀ k, k < base → k ≠ g → W'.heap[k]? = W.heap[k]?
theorem Kept1.trans {W W1 W2 : World} {g base : Nat} (h : Kept1 W W1 g base) (h' : Kept1 W1 W2 g base) : Kept1 W W2 g base := fun k hk hg => (h' k hk hg).trans (h k hk hg)
theorem Kept1.args {W W' : World} {g base : Nat} (h : Kept1 W W' g base) (hgb : g < base) {A : Option Addr} {n : Nat} {xs : List ByteArray} (hF : Kd.F Kd.string W (fun k => k < g) A n xs) : Kd.F Kd.string W' (fun k => k < g) A n xs :=
  Kd.F_step hF (fun k hk _ => h k (by omega) (by omega))
theorem Kept1.cell {W W' : World} {g base : Nat} (h : Kept1 W W' g base) {p : Addr} {x : Value} (hp : W.cell? p = some x) (h1 : p.block < base) (h2 : p.block ≠ g) : W'.cell? p = some x := by
  unfold World.cell? at hp ⊢
  rw [h p.block h1 h2]
  exact hp

theorem use_at (g base : Nat) (c : Int) (aR aW : Bool) (keys : List UseD) (u : UseD) (W : World) (h : KeysAt W g base c keys aR aW) (hgb : g < base) (hbW : base ≤ W.heap.size) (hl : keys.length ≤ 1000000) :
    Calls Try.prog 50 #[.pointer (some ⟨g, 0, none⟩), .string u.key, .bool u.r, .bool u.w] W fun e W' => e = .returned (.tuple #[]) ∧ Aside0 (KeysAt W' g base c (keys ++ [u]) aR aW) ∧ Aside0 (Kept1 W W' g base) ∧ Aside0 (Below g W W') := by
  obtain ⟨v, h1, h2⟩ := h.out
  exact (use_calls g base c v aR aW _ keys u W h1 h2 hgb hbW hl).mono fun e W' ⟨he, v', h3, h4, h5, h6⟩ => ⟨he, ⟨⟨v', h3.out, h4.out⟩⟩, ⟨h5.out⟩, h6⟩

section
variable (g : Nat) (c : Int) (A : Option Addr) (n cp : Nat) (xs : List ByteArray) (W : World)
/-- A word of a request that there is. -/
def word (xs : List ByteArray) (i : Nat) : ByteArray := xs.getD i ⟨#[]⟩
theorem word_get (i : Nat) (h : i < xs.length) : xs[i] = word xs i := by
  unfold word
  rw [List.getD_eq_getElem?_getD, List.getElem?_eq_getElem h]
  rfl

/-- The cell of a word behind the first. -/
theorem word_at {w : World} {ok : Nat → Prop} {ad : Addr} {n : Nat} {xs : List ByteArray} (h : Kd.F Kd.string w ok (some ad) n xs) (i : Nat) (hi : i + 1 < n) : w.cell? ⟨ad.block, ad.off + (i + 1), none⟩ = some (.string (word xs (i + 1))) := by
  obtain ⟨a, hl, e, c0⟩ := text_at h (i + 1) hi
  injection e with e
  subst e
  rw [word_get] at c0
  exact c0
theorem some_at {w : World} {ok : Nat → Prop} {A : Option Addr} {n : Nat} {xs : List ByteArray} (h : Kd.F Kd.string w ok A n xs) (hn : 0 < n) : ∃ ad, A = some ad := by
  obtain ⟨a, hl, e, _⟩ := text_at h 0 hn
  exact ⟨a, e⟩

set_option maxHeartbeats 1000000 in
theorem set_calls (hg : W.heap[g]? = some (needB c (.slice none 0 0) false false (.slice none 0 0))) (hF : Kd.F Kd.string W (fun k => k < g) A n xs) (h2 : 2 ≤ n) :
    Calls Try.prog 49 #[.pointer (some ⟨g, 0, none⟩), .slice A n cp] W fun e W' => e = .returned (.tuple #[]) ∧ Aside0 (NeedAt W' g W.heap.size c [⟨word xs 1, decide ((3 : Int) < n), true⟩] false false []) ∧ Aside0 (Below g W W') := by
  have HK := Aside0.mk (KeysAt.fresh W.heap.size hg)
  have hlt := blk_lt hg
  obtain ⟨ad, rfl⟩ := some_at hF (by omega)
  have c0 := word_at hF 0 (by omega)
  have i1 : (1 : Int) < (n : Int) := by omega
  clear hg hF
  go_enter Try.func49, Try.ntmps49
  go_wp2_with (go_at_call 50; go_must (refine (use_at g W.heap.size c false false [] ⟨word xs 1, decide ((3 : Int) < n), true⟩ _ HK.out hlt (Nat.le_refl _) (by simp)).mono ?_); rintro e W1 ⟨rfl, HK1, _, HB1⟩)
  exact bodyPost_end0 rfl rfl ⟨rfl, ⟨HK1.out.need⟩, HB1⟩

theorem two_calls (f : Nat) (r : Bool) (hf : (f = 52 ∧ r = false) ∨ (f = 53 ∧ r = true)) (hg : W.heap[g]? = some (needB c (.slice none 0 0) false false (.slice none 0 0))) (hF : Kd.F Kd.string W (fun k => k < g) A n xs) (h2 : 3 ≤ n) :
    Calls Try.prog f #[.pointer (some ⟨g, 0, none⟩), .slice A n cp] W fun e W' => e = .returned (.tuple #[]) ∧ Aside0 (NeedAt W' g W.heap.size c [⟨word xs 1, true, true⟩, ⟨word xs 2, r, true⟩] false false []) ∧ Aside0 (Below g W W') := by
  have HK := Aside0.mk (KeysAt.fresh W.heap.size hg)
  have hlt := blk_lt hg
  obtain ⟨ad, rfl⟩ := some_at hF (by omega)
  have c0 := word_at hF 0 (by omega)
  have c1 := word_at hF 1 (by omega)
  have HF := Aside0.mk hF
  have i1 : (1 : Int) < (n : Int) := by omega
  have i2 : (2 : Int) < (n : Int) := by omega
  have hn2 : 2 < n := by omega
  clear hg hF
  rcases hf with ⟨rfl, rfl⟩ | ⟨rfl, rfl⟩
  · go_enter Try.func52, Try.ntmps52
    go_wp2_with (first | (go_at_call_of 50 (Value.string (word xs 1)); go_must (refine (use_at g W.heap.size c false false [] ⟨word xs 1, true, true⟩ _ HK.out hlt (Nat.le_refl _) (by simp)).mono ?_); rintro e W1 ⟨rfl, HK1, HC1, HB1⟩; have c2 := word_at (HC1.out.args hlt HF.out) 1 hn2; have hsz : W.heap.size ≤ W1.heap.size := HB1.out.size; clear c0 c1) | (go_at_call 50; go_must (refine (use_at g W.heap.size c false false _ ⟨word xs 2, false, true⟩ _ HK1.out hlt hsz (by simp)).mono ?_); rintro e W2 ⟨rfl, HK2, _, HB2⟩))
    exact bodyPost_end0 rfl rfl ⟨rfl, ⟨HK2.out.need⟩, ⟨HB1.out.trans HB2.out⟩⟩
  · go_enter Try.func53, Try.ntmps53
    go_wp2_with (first | (go_at_call_of 50 (Value.string (word xs 1)); go_must (refine (use_at g W.heap.size c false false [] ⟨word xs 1, true, true⟩ _ HK.out hlt (Nat.le_refl _) (by simp)).mono ?_); rintro e W1 ⟨rfl, HK1, HC1, HB1⟩; have c2 := word_at (HC1.out.args hlt HF.out) 1 hn2; have hsz : W.heap.size ≤ W1.heap.size := HB1.out.size; clear c0 c1) | (go_at_call 50; go_must (refine (use_at g W.heap.size c false false _ ⟨word xs 2, true, true⟩ _ HK1.out hlt hsz (by simp)).mono ?_); rintro e W2 ⟨rfl, HK2, _, HB2⟩))
    exact bodyPost_end0 rfl rfl ⟨rfl, ⟨HK2.out.need⟩, ⟨HB1.out.trans HB2.out⟩⟩

theorem allR_calls (f : Nat) (hf : f = 54 ∨ f = 55) (hg : W.heap[g]? = some (needB c (.slice none 0 0) false false (.slice none 0 0))) :
    Calls Try.prog f #[.pointer (some ⟨g, 0, none⟩), .slice A n cp] W fun e W' => e = .returned (.tuple #[]) ∧ Aside0 (NeedAt W' g W.heap.size c [] true false []) ∧ Aside0 (Below g W W') := by
  have HX := Aside0.mk hg
  obtain ⟨x0, x1, x2, x3, x4, xf⟩ := cells5' hg
  clear hg
  rcases hf with rfl | rfl
  · go_enter Try.func54, Try.ntmps54
    go_wp2
    exact bodyPost_end0 rfl rfl ⟨rfl, ⟨⟨_, _, (blk_set HX.out 2 _).trans rfl, Kd.N_nil _ _ _ _ _, Kd.N_nil _ _ _ _ _⟩⟩, ⟨(Below.refl _ _).setCell (p := ⟨g, 2, none⟩) (Nat.le_refl _) _⟩⟩
  · go_enter Try.func55, Try.ntmps55
    go_wp2
    exact bodyPost_end0 rfl rfl ⟨rfl, ⟨⟨_, _, (blk_set HX.out 2 _).trans rfl, Kd.N_nil _ _ _ _ _, Kd.N_nil _ _ _ _ _⟩⟩, ⟨(Below.refl _ _).setCell (p := ⟨g, 2, none⟩) (Nat.le_refl _) _⟩⟩
theorem allW_calls (hg : W.heap[g]? = some (needB c (.slice none 0 0) false false (.slice none 0 0))) :
    Calls Try.prog 56 #[.pointer (some ⟨g, 0, none⟩), .slice A n cp] W fun e W' => e = .returned (.tuple #[]) ∧ Aside0 (NeedAt W' g W.heap.size c [] false true []) ∧ Aside0 (Below g W W') := by
  have HX := Aside0.mk hg
  obtain ⟨x0, x1, x2, x3, x4, xf⟩ := cells5' hg
  clear hg
  go_enter Try.func56, Try.ntmps56
  go_wp2
  exact bodyPost_end0 rfl rfl ⟨rfl, ⟨⟨_, _, (blk_set HX.out 3 _).trans rfl, Kd.N_nil _ _ _ _ _, Kd.N_nil _ _ _ _ _⟩⟩, ⟨(Below.refl _ _).setCell (p := ⟨g, 3, none⟩) (Nat.le_refl _) _⟩⟩
end
end Go.Proofs.Ytflnpgfddedahaa.U
