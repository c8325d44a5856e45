/- What the kinds do that tell channels: publish and subscribe. -/
import Derived.Test.YtflnpgfddedahaaU5
namespace Go.Proofs.Ytflnpgfddedahaa.U
open Go.RowKit Go.Great Go.Proofs.YtflnpgfddedahaaW.PrintWords
set_option linter.unusedVariables false
set_option linter.unusedSimpArgs false

theorem info9 : (Try.prog.info? 9).map (fun i => (i.zero, i.size, i.bytes)) = some (some (.string ⟨#[]⟩), 1, 16) := by kernel_rfl
theorem ne_own {k B : Nat} {v : Value} (hk : k < B) (h : ∀ j, v.ownBlock = some j → B ≤ j) : some k ≠ v.ownBlock := fun e => by
  have := h k e.symm; omega
/-- Of elements that lead to nothing only the row's own block is needed. -/
theorem N_flat {α : Type} {d : Kd α} (hd : ∀ (W W' : World) (x : α) (c : List Value), d.K W x c → d.K W' x c) {e : Nat} {w : World} {base : Nat} {ok ok' : Nat → Prop} {v : Value} {xs : List α} (h : d.N e w base ok v xs) (ho : ∀ k, v.ownBlock = some k → ok' k) : d.N e w base ok' v xs := by
  obtain ⟨_, rows, hl, hR, hf⟩ := h
  exact ⟨ho, rows, hl, hR, fun j x c hx hc => fun W' _ => hd _ _ _ _ (Kd.FK_now (hf j x c hx hc))⟩
theorem flat_string : ∀ (W W' : World) (x : ByteArray) (c : List Value), Kd.string.K W x c → Kd.string.K W' x c := fun _ _ _ _ h => h

set_option maxHeartbeats 1000000 in
theorem clone_texts (A : Option Addr) (n c : Nat) (ok : Nat → Prop) (xs : List ByteArray) (w : World) (h : Kd.F Kd.string w ok A n xs) (hn : n * 16 ≤ 140737488355328) :
    Calls Try.prog 58 #[.slice A n c] w fun e w' => ∃ A' c', e = .returned (.slice A' xs.length c') ∧ Aside0 (Kd.N Kd.string 9 w' w.heap.size (fun k => w.heap.size ≤ k) (.slice A' xs.length c') xs) ∧ Below w.heap.size w w' := by
  have qT : ∀ (w : World) (a : Option Addr) (n c n' c' : Nat), (binOp .eql 35 (.slice a n c) (.slice none n' c')).run Try.prog w = .ok (.bool a.isNone) w := fun w a n c n' c' => Lib.run_eql_slice_nil w _ _ a n c n' c' Try.underlying35
  have HF := Aside0.mk h
  clear h
  cases A with
  | none =>
    have hx : xs = [] := by
      have h1 := Kd.F_now HF.out
      cases n with
      | zero => exact List.eq_nil_of_length_eq_zero h1.1
      | succ n => obtain ⟨ad, he, _⟩ := h1.2.2 (by omega); cases he
    subst hx
    go_enter Try.func58, Try.ntmps58
    go_wp2
    go_ret
    exact ⟨_, _, rfl, ⟨Kd.N_nil _ _ _ _ _⟩, Below.refl _ _⟩
  | some a =>
    go_enter Try.func58, Try.ntmps58
    go_wp2_with (first | ((with_reducible refine gate_dst (N := 5) rfl ?_); go_must (refine Kd.N_lit Kd.string (w0 := w) w.heap.size 9 rfl (N' := 5) rfl (xs := ([] : List ByteArray)) (inner := []) (ok := fun k => ok k ∨ w.heap.size ≤ k) (okp := fun _ => False) ?hr (Reps.none _ _) (fun _ hk => hk.elim) (.inr (Nat.le_refl _)) (Below.refl _ _) (Nat.le_refl _) (by simp) ?_; (case hr => first | (go_simp; done) | (go_simp; rfl))); intro v1 w1 hN hb _ hv; have HN := Aside0.mk hN; have HB := Aside0.mk hb; have HV := Aside0.mk (show ∀ j, v1.ownBlock = some j → w.heap.size ≤ j from fun j hj => by obtain ⟨b, hb1, hb2⟩ := hv; rw [hb1] at hj; injection hj with hj; omega); clear hN hb hv) | ((with_reducible refine gate_builtin (b := .append) (xs := #[.tmp 5, .tmp 6]) rfl ?_); at_builtin; refine Kd.N_append_rows Kd.string (w0 := w) w.heap.size rfl (.tmp 5) (.tmp 6) 35 9 (.string ⟨#[]⟩) 16 rfl Try.underlying35 info9 rfl (by decide) (by decide) v1 [] xs (some a) n c (fun k => ok k ∨ w.heap.size ≤ k) (fun k => ok k ∧ k < w.heap.size) rfl rfl HN.out (Kd.F_old HF.out HB.out) (fun k hk => ⟨.inl hk.1, ne_own hk.2 HV.out⟩) (fun k hk => .inr (Nat.le_trans HB.out.size hk)) HB.out HB.out.size (by simpa using Nat.le_trans hn (by decide)) ?_; intro v2 w2 hN2 hb2 _ _; have HN2 := Aside0.mk hN2; have HB2 := Aside0.mk hb2; clear hN2 hb2))
    go_ret
    obtain ⟨A2, c2, rfl⟩ := Kd.N_slice HN2.out
    exact ⟨A2, c2, rfl, ⟨N_flat flat_string HN2.out (Kd.N_base HN2.out)⟩, HB2.out⟩

section
variable (g : Nat) (c : Int) (A : Option Addr) (n cp : Nat) (xs : List ByteArray) (W : World)
set_option maxHeartbeats 1000000 in
theorem publish_calls (hg : W.heap[g]? = some (needB c (.slice none 0 0) false false (.slice none 0 0))) (hF : Kd.F Kd.string W (fun k => k < g) A n xs) (h2 : 2 ≤ n) :
    Calls Try.prog 59 #[.pointer (some ⟨g, 0, none⟩), .slice A n cp] W fun e W' => e = .returned (.tuple #[]) ∧ Aside0 (NeedAt W' g W.heap.size c [] false false [word xs 1]) ∧ Aside0 (Below g W W') := by
  have HX := Aside0.mk hg
  have hlt := blk_lt hg
  obtain ⟨ad, rfl⟩ := some_at hF (by omega)
  have c0 := word_at hF 0 (by omega)
  have i1 : (1 : Int) < (n : Int) := by omega
  clear hg hF
  go_enter Try.func59, Try.ntmps59
  go_wp2_with ((with_reducible refine gate_dst (N := 8) rfl ?_); go_must (refine Kd.N_lit Kd.string (w0 := W) W.heap.size 9 rfl (N' := 8) rfl (xs := [word xs 1]) (inner := [.string (word xs 1)]) (ok := fun k => W.heap.size ≤ k) (okp := fun _ => False) ?hr ?hp (fun _ hk => hk.elim) (Nat.le_refl _) (Below.refl _ _) (Nat.le_refl _) (by simp) ?_; (case hr => first | (go_simp; done) | (go_simp; rfl)); (case hp => exact texts_reps (fun c => fun W' _ => rfl) [word xs 1])); intro v1 w1 hN hb hg1 hv; obtain ⟨A1, c1, rfl⟩ := Kd.N_slice hN; have HN := Aside0.mk hN; have HB := Aside0.mk hb; have X1 := Aside0.mk (blk_below HX.out hb); obtain ⟨x0, x1, x2, x3, x4, xf⟩ := cells5' X1.out; clear hN hb hg1 hv)
  refine bodyPost_end0 rfl rfl ⟨rfl, ⟨⟨_, _, (blk_set X1.out 4 _).trans rfl, Kd.N_nil _ _ _ _ _, Kd.N_far (p := ⟨g, 4, none⟩) HN.out (fun b hb => by show b ≠ g; omega) _⟩⟩, ⟨(HB.out.mono (Nat.le_of_lt hlt)).setCell (p := ⟨g, 4, none⟩) (Nat.le_refl _) _⟩⟩

set_option maxHeartbeats 1000000 in
theorem subscribe_calls (hg : W.heap[g]? = some (needB c (.slice none 0 0) false false (.slice none 0 0))) (hF : Kd.F Kd.string W (fun k => k < g) A n xs) (h2 : 2 ≤ n) (hcp : n ≤ cp) (hn : n ≤ 1000000) :
    Calls Try.prog 57 #[.pointer (some ⟨g, 0, none⟩), .slice A n cp] W fun e W' => e = .returned (.tuple #[]) ∧ Aside0 (NeedAt W' g W.heap.size c [] false false (xs.drop 1)) ∧ Aside0 (Below g W W') := by
  have HX := Aside0.mk hg
  have hlt := blk_lt hg
  have hxl := Kd.F_len hF
  obtain ⟨ad, rfl⟩ := some_at hF (by omega)
  have HD := Aside0.mk (show Kd.F Kd.string W (fun k => k < g) (some (ad.add 1)) (n - 1) (xs.drop 1) from by
    have h := hF
    rw [← hxl] at h
    have h1 := Kd.F_cut (m := 1) (c := cp) h (by omega) (by omega)
    rw [if_neg (by omega), List.length_drop, hxl] at h1
    exact h1)
  obtain ⟨m, hm⟩ : ∃ m, n = m + 1 := ⟨n - 1, by omega⟩
  have HD2 : Aside0 (Kd.F Kd.string W (fun k => k < g) (some ⟨ad.block, ad.off + 1, none⟩) m (xs.drop 1)) := ⟨by have h := HD.out; rw [show n - 1 = m by omega] at h; exact h⟩
  obtain ⟨ys, hys⟩ : ∃ ys, ys = xs.drop 1 := ⟨_, rfl⟩
  rw [← hys] at HD2 ⊢
  clear hys
  have hm16 : m * 16 ≤ 140737488355328 := by omega
  have i1 : (1 : Int) ≤ (n : Int) := by omega
  have i2 : (n : Int) ≤ (cp : Int) := by omega
  have i3 : ¬ cp = 1 := by omega
  clear hg hF hxl HD
  go_enter Try.func57, Try.ntmps57
  go_wp2_with (go_at_call 58; go_must (refine (clone_texts (some ⟨ad.block, ad.off + 1, none⟩) m (cp - 1) _ ys _ HD2.out hm16).mono ?_); rintro e W1 ⟨A1, c1, rfl, HN1, hb1⟩; have HB1 := Aside0.mk hb1; have X1 := Aside0.mk (blk_below HX.out hb1); obtain ⟨x0, x1, x2, x3, x4, xf⟩ := cells5' X1.out; clear hb1)
  refine bodyPost_end0 rfl rfl ⟨rfl, ⟨⟨_, _, (blk_set X1.out 4 _).trans rfl, Kd.N_nil _ _ _ _ _, Kd.N_far (p := ⟨g, 4, none⟩) HN1.out (fun b hb => by show b ≠ g; omega) _⟩⟩, ⟨(HB1.out.mono (Nat.le_of_lt hlt)).setCell (p := ⟨g, 4, none⟩) (Nat.le_refl _) _⟩⟩
end
end Go.Proofs.Ytflnpgfddedahaa.U
