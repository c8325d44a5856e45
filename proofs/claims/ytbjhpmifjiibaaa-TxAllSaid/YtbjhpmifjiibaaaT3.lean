/- tx.Begin, Spoil, Forget, the references' ones, and copies: what each comes to, by values, in whatever memory. -/
import Derived.Test.YtbjhpmifjiibaaaT2
namespace Go.Proofs.Ytbjhpmifjiibaaa.T
open Go.RowKit Go.Maps Go.Proofs.YtbjhpmifjiibaaaW.PrintWords
set_option linter.unusedVariables false
set_option linter.unusedSimpArgs false

/-- A block of four cells: what the walk is told of it. -/
theorem cells4 {W : World} {g : Nat} {t : TypeId} {a b c d : Value} (h : W.heap[g]? = some (.cells #[a, b, c, d] t (0, 0))) :
    W.cell? ⟨g, 0, none⟩ = some a ∧ W.cell? ⟨g, 1, none⟩ = some b ∧ W.cell? ⟨g, 2, none⟩ = some c ∧ W.cell? ⟨g, 3, none⟩ = some d ∧ ∀ o, W.frozen? ⟨g, o, none⟩ = false :=
  ⟨(blk_cell h 0).trans rfl, (blk_cell h 1).trans rfl, (blk_cell h 2).trans rfl, (blk_cell h 3).trans rfl, fun o => blk_frozen h o⟩
theorem ne_some {v : Value} {g B : Nat} (hb : ∀ k, v.ownBlock = some k → B ≤ k) (h : g < B) : some g ≠ v.ownBlock := fun e => by have := hb g e.symm; omega
set_option maxHeartbeats 1000000 in
theorem clone_rows (A : Option Addr) (n c : Nat) (ok : Nat → Prop) (xs : List (List ByteArray)) (w : World) (h : Kd.F kRows w ok A n xs) (hn : n * 24 ≤ 140737488355328) :
    Calls Try.prog 23 #[.slice A n c] w fun e w' => ∃ A' c', e = .returned (.slice A' xs.length c') ∧ Aside0 (Kd.N kRows 30 w' w.heap.size (fun k => ok k ∨ w.heap.size ≤ k) (.slice A' xs.length c') xs) ∧ Below w.heap.size w w' := by
  have qT : ∀ (w : World) (a : Option Addr) (n c n' c' : Nat), (binOp .eql 22 (.slice a n c) (.slice none n' c')).run Try.prog w = .ok (.bool a.isNone) w := fun w a n c n' c' => Lib.run_eql_slice_nil w _ _ a n c n' c' Try.underlying22
  have HF := Aside0.mk h
  clear h
  cases A with
  | none =>
    have hx : xs = [] := by
      have h1 := Kd.F_now HF.out
      cases n with
      | zero => exact List.eq_nil_of_length_eq_zero h1.1
      | succ n => obtain ⟨ad, he, _⟩ := h1.2.2 (by omega); cases he
    subst hx
    go_enter Try.func23, Try.ntmps23
    go_wp2
    go_ret
    exact ⟨_, _, rfl, ⟨Kd.N_nil _ _ _ _ _⟩, Below.refl _ _⟩
  | some a =>
    go_enter Try.func23, Try.ntmps23
    go_wp2_with (first | ((with_reducible refine gate_dst (N := 5) rfl ?_); go_must (refine Kd.N_lit kRows (w0 := w) w.heap.size 30 rfl (N' := 5) rfl (xs := ([] : List (List ByteArray))) (inner := []) (ok := fun k => ok k ∨ w.heap.size ≤ k) (okp := fun _ => False) ?hr (Reps.none _ _) (fun _ hk => hk.elim) (.inr (Nat.le_refl _)) (Below.refl _ _) (Nat.le_refl _) (by simp) ?_; (case hr => first | (go_simp; done) | (go_simp; rfl))); intro v1 w1 hN hb _ hv; have HN := Aside0.mk hN; have HB := Aside0.mk hb; have HV := Aside0.mk (show ∀ j, v1.ownBlock = some j → w.heap.size ≤ j from fun j hj => by obtain ⟨b, hb1, hb2⟩ := hv; rw [hb1] at hj; injection hj with hj; omega); clear hN hb hv) | ((with_reducible refine gate_builtin (b := .append) (xs := #[.tmp 5, .tmp 6]) rfl ?_); at_builtin; refine Kd.N_append_rows kRows (w0 := w) w.heap.size rfl (.tmp 5) (.tmp 6) 22 30 (.slice none 0 0) 24 rfl Try.underlying22 info30 rfl (by decide) (by decide) v1 [] xs (some a) n c (fun k => ok k ∨ w.heap.size ≤ k) (fun k => ok k ∧ k < w.heap.size) rfl rfl HN.out (Kd.F_old HF.out HB.out) (fun k hk => ⟨.inl hk.1, ne_own hk.2 HV.out⟩) (fun k hk => .inr (Nat.le_trans HB.out.size hk)) HB.out HB.out.size (by simpa using Nat.le_trans hn (by decide)) ?_; intro v2 w2 hN2 hb2 _ _; have HN2 := Aside0.mk hN2; have HB2 := Aside0.mk hb2; clear hN2 hb2))
    go_ret
    obtain ⟨A2, c2, rfl⟩ := Kd.N_slice HN2.out
    exact ⟨A2, c2, rfl, HN2, HB2.out⟩


set_option maxHeartbeats 1000000 in
theorem clone_seen (A : Option Addr) (n c : Nat) (ok : Nat → Prop) (xs : List SeenD) (w : World) (h : Kd.F kSeen w ok A n xs) (hn : n * 24 ≤ 140737488355328) :
    Calls Try.prog 27 #[.slice A n c] w fun e w' => ∃ A' c', e = .returned (.slice A' xs.length c') ∧ Aside0 (Kd.N kSeen 36 w' w.heap.size (fun k => w.heap.size ≤ k) (.slice A' xs.length c') xs) ∧ Below w.heap.size w w' := by
  have qT : ∀ (w : World) (a : Option Addr) (n c n' c' : Nat), (binOp .eql 24 (.slice a n c) (.slice none n' c')).run Try.prog w = .ok (.bool a.isNone) w := fun w a n c n' c' => Lib.run_eql_slice_nil w _ _ a n c n' c' Try.underlying24
  have HF := Aside0.mk h
  clear h
  cases A with
  | none =>
    have hx : xs = [] := by
      have h1 := Kd.F_now HF.out
      cases n with
      | zero => exact List.eq_nil_of_length_eq_zero h1.1
      | succ n => obtain ⟨ad, he, _⟩ := h1.2.2 (by omega); cases he
    subst hx
    go_enter Try.func27, Try.ntmps27
    go_wp2
    go_ret
    exact ⟨_, _, rfl, ⟨Kd.N_nil _ _ _ _ _⟩, Below.refl _ _⟩
  | some a =>
    go_enter Try.func27, Try.ntmps27
    go_wp2_with (first | ((with_reducible refine gate_dst (N := 5) rfl ?_); go_must (refine Kd.N_lit kSeen (w0 := w) w.heap.size 36 rfl (N' := 5) rfl (xs := ([] : List SeenD)) (inner := []) (ok := fun k => ok k ∨ w.heap.size ≤ k) (okp := fun _ => False) ?hr (Reps.none _ _) (fun _ hk => hk.elim) (.inr (Nat.le_refl _)) (Below.refl _ _) (Nat.le_refl _) (by simp) ?_; (case hr => first | (go_simp; done) | (go_simp; rfl))); intro v1 w1 hN hb _ hv; have HN := Aside0.mk hN; have HB := Aside0.mk hb; have HV := Aside0.mk (show ∀ j, v1.ownBlock = some j → w.heap.size ≤ j from fun j hj => by obtain ⟨b, hb1, hb2⟩ := hv; rw [hb1] at hj; injection hj with hj; omega); clear hN hb hv) | ((with_reducible refine gate_builtin (b := .append) (xs := #[.tmp 5, .tmp 6]) rfl ?_); at_builtin; refine Kd.N_append_rows kSeen (w0 := w) w.heap.size rfl (.tmp 5) (.tmp 6) 24 36 (.agg #[(.string ⟨#[]⟩), (.int .i64 0)]) 24 rfl Try.underlying24 info36 rfl (by decide) (by decide) v1 [] xs (some a) n c (fun k => ok k ∨ w.heap.size ≤ k) (fun k => ok k ∧ k < w.heap.size) rfl rfl HN.out (Kd.F_old HF.out HB.out) (fun k hk => ⟨.inl hk.1, ne_own hk.2 HV.out⟩) (fun k hk => .inr (Nat.le_trans HB.out.size hk)) HB.out HB.out.size (by simpa using Nat.le_trans hn (by decide)) ?_; intro v2 w2 hN2 hb2 _ _; have HN2 := Aside0.mk hN2; have HB2 := Aside0.mk hb2; clear hN2 hb2))
    go_ret
    obtain ⟨A2, c2, rfl⟩ := Kd.N_slice HN2.out
    exact ⟨A2, c2, rfl, ⟨N_flat flat_seen HN2.out (Kd.N_base HN2.out)⟩, HB2.out⟩


set_option maxHeartbeats 1000000 in
theorem begin_calls (on bad : Bool) (Aq : Option Addr) (nq cq : Nat) (As : Option Addr) (ns cs : Nat) (w : World) :
    Calls Try.prog 8 #[tx on bad Aq nq cq As ns cs] w fun e w' => 
      e = .returned (.tuple #[if on then tx on bad Aq nq cq As ns cs else tx true false none 0 0 As ns cs, .bool !on]) ∧ Below w.heap.size w w' := by
  cases on
  · go_enter Try.func8, Try.ntmps8
    go_wp2
    refine bodyPost_ret (v := .tuple #[tx true false none 0 0 As ns cs, .bool true]) (by simp [results, Try.results8, go_sem]) rfl ⟨rfl, ?_⟩
    exact below_alloc (below_alloc (Below.refl _ _) _) _
  · go_enter Try.func8, Try.ntmps8
    go_wp2
    refine bodyPost_ret (v := .tuple #[tx true bad Aq nq cq As ns cs, .bool false]) (by simp [results, Try.results8, go_sem]) rfl ⟨rfl, ?_⟩
    exact below_alloc (below_alloc (Below.refl _ _) _) _

set_option maxHeartbeats 1000000 in
theorem refBegin_calls (on bad : Bool) (Aq : Option Addr) (nq cq : Nat) (As : Option Addr) (ns cs : Nat) (w : World) :
    Calls Try.prog 16 #[tx on bad Aq nq cq As ns cs] w fun e w' => 
      e = .returned (.tuple #[if on then tx on bad Aq nq cq As ns cs else tx true false none 0 0 As ns cs, .bool !on]) ∧ Below w.heap.size w w' := by
  cases on
  · go_enter Try.func16, Try.ntmps16
    go_wp2
    refine bodyPost_ret (v := .tuple #[tx true false none 0 0 As ns cs, .bool true]) (by simp [results, Try.results16, go_sem]) rfl ⟨rfl, ?_⟩
    exact below_alloc (below_alloc (Below.refl _ _) _) _
  · go_enter Try.func16, Try.ntmps16
    go_wp2
    refine bodyPost_ret (v := .tuple #[tx true bad Aq nq cq As ns cs, .bool false]) (by simp [results, Try.results16, go_sem]) rfl ⟨rfl, ?_⟩
    exact below_alloc (below_alloc (Below.refl _ _) _) _

set_option maxHeartbeats 1000000 in
theorem spoil_calls (on bad : Bool) (Aq : Option Addr) (nq cq : Nat) (As : Option Addr) (ns cs : Nat) (w : World) :
    Calls Try.prog 11 #[tx on bad Aq nq cq As ns cs] w fun e w' => 
      e = .returned (tx on (bad || on) Aq nq cq As ns cs) ∧ Below w.heap.size w w' := by
  cases on <;> cases bad
  · go_enter Try.func11, Try.ntmps11
    go_wp2
    refine bodyPost_ret (v := tx false false Aq nq cq As ns cs) (by simp [results, Try.results11, go_sem]) rfl ⟨rfl, ?_⟩
    exact below_alloc (below_alloc (Below.refl _ _) _) _
  · go_enter Try.func11, Try.ntmps11
    go_wp2
    refine bodyPost_ret (v := tx false true Aq nq cq As ns cs) (by simp [results, Try.results11, go_sem]) rfl ⟨rfl, ?_⟩
    exact below_alloc (below_alloc (Below.refl _ _) _) _
  · go_enter Try.func11, Try.ntmps11
    go_wp2
    refine bodyPost_ret (v := tx true true Aq nq cq As ns cs) (by simp [results, Try.results11, go_sem]) rfl ⟨rfl, ?_⟩
    exact below_alloc (below_alloc (Below.refl _ _) _) _
  · go_enter Try.func11, Try.ntmps11
    go_wp2
    refine bodyPost_ret (v := tx true true Aq nq cq As ns cs) (by simp [results, Try.results11, go_sem]) rfl ⟨rfl, ?_⟩
    exact below_alloc (below_alloc (Below.refl _ _) _) _

set_option maxHeartbeats 1000000 in
theorem refSpoil_calls (on bad : Bool) (Aq : Option Addr) (nq cq : Nat) (As : Option Addr) (ns cs : Nat) (w : World) :
    Calls Try.prog 20 #[tx on bad Aq nq cq As ns cs] w fun e w' => 
      e = .returned (tx on (bad || on) Aq nq cq As ns cs) ∧ Below w.heap.size w w' := by
  cases on <;> cases bad
  · go_enter Try.func20, Try.ntmps20
    go_wp2
    refine bodyPost_ret (v := tx false false Aq nq cq As ns cs) (by simp [results, Try.results20, go_sem]) rfl ⟨rfl, ?_⟩
    exact below_alloc (below_alloc (Below.refl _ _) _) _
  · go_enter Try.func20, Try.ntmps20
    go_wp2
    refine bodyPost_ret (v := tx false true Aq nq cq As ns cs) (by simp [results, Try.results20, go_sem]) rfl ⟨rfl, ?_⟩
    exact below_alloc (below_alloc (Below.refl _ _) _) _
  · go_enter Try.func20, Try.ntmps20
    go_wp2
    refine bodyPost_ret (v := tx true true Aq nq cq As ns cs) (by simp [results, Try.results20, go_sem]) rfl ⟨rfl, ?_⟩
    exact below_alloc (below_alloc (Below.refl _ _) _) _
  · go_enter Try.func20, Try.ntmps20
    go_wp2
    refine bodyPost_ret (v := tx true true Aq nq cq As ns cs) (by simp [results, Try.results20, go_sem]) rfl ⟨rfl, ?_⟩
    exact below_alloc (below_alloc (Below.refl _ _) _) _

set_option maxHeartbeats 1000000 in
theorem forget_calls (on bad : Bool) (Aq : Option Addr) (nq cq : Nat) (As : Option Addr) (ns cs : Nat) (w : World) :
    Calls Try.prog 14 #[tx on bad Aq nq cq As ns cs] w fun e w' => 
      e = .returned (tx on bad Aq nq cq none 0 0) ∧ Below w.heap.size w w' := by
  go_enter Try.func14, Try.ntmps14
  go_wp2
  refine bodyPost_ret (v := tx on bad Aq nq cq none 0 0) (by simp [results, Try.results14, go_sem]) rfl ⟨rfl, ?_⟩
  exact below_alloc (below_alloc (Below.refl _ _) _) _

set_option maxHeartbeats 1000000 in
theorem refForget_calls (on bad : Bool) (Aq : Option Addr) (nq cq : Nat) (As : Option Addr) (ns cs : Nat) (w : World) :
    Calls Try.prog 21 #[tx on bad Aq nq cq As ns cs] w fun e w' => 
      e = .returned (tx on bad Aq nq cq none 0 0) ∧ Below w.heap.size w w' := by
  go_enter Try.func21, Try.ntmps21
  go_wp2
  refine bodyPost_ret (v := tx on bad Aq nq cq none 0 0) (by simp [results, Try.results21, go_sem]) rfl ⟨rfl, ?_⟩
  exact below_alloc (below_alloc (Below.refl _ _) _) _

end Go.Proofs.Ytbjhpmifjiibaaa.T
