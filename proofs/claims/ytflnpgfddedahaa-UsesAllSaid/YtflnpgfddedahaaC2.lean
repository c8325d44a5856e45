/- table.At, Fits, Count: what they come to. -/
import Derived.Test.YtflnpgfddedahaaC1
namespace Go.Proofs.Ytflnpgfddedahaa.U
open Go.RowKit Go.Proofs.YtflnpgfddedahaaW.PrintWords
set_option linter.unusedVariables false
set_option linter.unusedSimpArgs false

/-- A command's cells. -/
theorem cmd_at {w : World} {ok : Nat → Prop} {A : Option Addr} {n : Nat} {xs : List CmdD} (h : Kd.F kCmd w ok A n xs) (k : Nat) (hk : k < n) :
    ∃ (ad : Addr) (hl : k < xs.length), A = some ad ∧ w.cell? (ad.add (k * 3)) = some (.string xs[k].name) ∧ w.cell? ⟨(ad.add (k * 3)).block, (ad.add (k * 3)).off + 1, none⟩ = some (.int .i64 xs[k].arity) ∧ w.cell? ⟨(ad.add (k * 3)).block, (ad.add (k * 3)).off + 2, none⟩ = some (.int .u16 xs[k].cats) := by
  have hn := Kd.F_len h
  obtain ⟨ad, c, e, _, hK, hc0⟩ := Kd.C_get (Kd.F_now h) (⟨⟨#[]⟩, 0, 0⟩ : CmdD) (k : Int) (by omega) (by omega)
  have hl : k < xs.length := by omega
  have hc : ∀ j u, c[j]? = some u → w.cell? (ad.add (k * 3 + j)) = some u := hc0
  rw [Int.toNat_natCast, List.getD_eq_getElem?_getD, List.getElem?_eq_getElem hl, Option.getD_some] at hK
  obtain ⟨_, _, rfl, rfl, _, _, rfl, rfl, rfl⟩ := hK
  exact ⟨ad, hl, e, hc 0 _ rfl, by rw [← add_field _ _ 1 (by omega)]; exact hc 1 _ rfl, by rw [← add_field _ _ 2 (by omega)]; exact hc 2 _ rfl⟩
abbrev noCmd : CmdD := ⟨⟨#[]⟩, 0, 0⟩
/-- The command of an id. -/
def cmdOf (k : Nat) : CmdD := TABLE.getD k noCmd
theorem cmdOf_get (k : Nat) (h : k < TABLE.length) : TABLE[k] = cmdOf k := by
  unfold cmdOf
  rw [List.getD_eq_getElem?_getD, List.getElem?_eq_getElem h]
  rfl
theorem step2 {w W w1 : World} (h : Below w.heap.size w W) (hb : Below W.heap.size W w1) : Below w.heap.size w w1 := below_then h h.size hb
theorem cells3 {W : World} {g : Nat} {t : TypeId} {a b c : Value} (h : W.heap[g]? = some (.cells #[a, b, c] t (0, 0))) :
    W.cell? ⟨g, 0, none⟩ = some a ∧ W.cell? ⟨g, 1, none⟩ = some b ∧ W.cell? ⟨g, 2, none⟩ = some c ∧ ∀ o, W.frozen? ⟨g, o, none⟩ = false :=
  ⟨(blk_cell h 0).trans rfl, (blk_cell h 1).trans rfl, (blk_cell h 2).trans rfl, fun o => blk_frozen h o⟩
theorem three_B {B : Nat} {w W : World} (h : Below B w W) {g : Nat} (hg : B ≤ g) (a' b' c' : Value) :
    Below B w (((W.setCell ⟨g, 0, none⟩ a').setCell ⟨g, 1, none⟩ b').setCell ⟨g, 2, none⟩ c') :=
  ((h.setCell (p := ⟨g, 0, none⟩) hg a').setCell (p := ⟨g, 1, none⟩) hg b').setCell (p := ⟨g, 2, none⟩) hg c'

set_option maxHeartbeats 1000000 in
theorem at_out (id : Int) (w : World) (h : id < 0 ∨ 56 ≤ id) :
    Calls Try.prog 13 #[.int .i64 id] w fun e w' => e = .returned (.tuple #[cmdV noCmd, .bool false]) ∧ Below w.heap.size w w' := by
  rcases (show id < 0 ∨ (0 ≤ id ∧ 56 ≤ id) by omega) with h1 | ⟨h1, h2⟩
  all_goals
    clear h
    go_enter Try.func13, Try.ntmps13
    go_wp2_with (go_at_call 35; refine (commands_calls _).mono ?_; rintro e w1 ⟨A, c, rfl, HF, hb1⟩; have HX := Aside0.mk (blk_below (blk_new w (.cells #[.string ⟨#[]⟩, .int .i64 0, .int .u16 0] 26)) hb1); have HB := Aside0.mk (step2 (below_alloc (Below.refl _ _) _) hb1); clear hb1; obtain ⟨x0, x1, x2, xf⟩ := cells3 HX.out)
    refine bodyPost_ret (v := .tuple #[cmdV noCmd, .bool false]) (by simp [results, Try.results13, go_sem, x0, x1, x2]) rfl ⟨rfl, ?_⟩
    exact three_B HB.out (Nat.le_refl _) _ _ _

set_option maxHeartbeats 1000000 in
theorem at_in (k : Nat) (w : World) (h : k < 56) :
    Calls Try.prog 13 #[.int .i64 k] w fun e w' => e = .returned (.tuple #[cmdV (cmdOf k), .bool true]) ∧ Below w.heap.size w w' := by
  have i0 : (0 : Int) ≤ (k : Int) := by omega
  have i1 : (k : Int) < 56 := by omega
  obtain ⟨cmd, hcmd⟩ : ∃ cmd, cmd = cmdOf k := ⟨_, rfl⟩
  rw [← hcmd]
  have HCMD := Aside0.mk hcmd
  clear hcmd
  go_enter Try.func13, Try.ntmps13
  go_wp2_with (go_at_call 35; refine (commands_calls _).mono ?_; rintro e w1 ⟨A, c, rfl, HF, hb1⟩; have HX := Aside0.mk (blk_below (blk_new w (.cells #[.string ⟨#[]⟩, .int .i64 0, .int .u16 0] 26)) hb1); have HB := Aside0.mk (step2 (below_alloc (Below.refl _ _) _) hb1); clear hb1; obtain ⟨ad, hl, rfl, c0, c1, c2⟩ := cmd_at HF.out k h; rw [cmdOf_get, ← HCMD.out] at c0 c1 c2; obtain ⟨x0, x1, x2, xf⟩ := cells3 HX.out)
  refine bodyPost_ret (v := .tuple #[cmdV cmd, .bool true]) (by simp [results, Try.results13, go_sem, x0, x1, x2]) rfl ⟨rfl, ?_⟩
  exact three_B HB.out (Nat.le_refl _) _ _ _

/-- May a command have so many words? -/
def fitsB (c : CmdD) (words : Int) : Bool := words == c.arity || (decide (c.arity < 0) && decide (-c.arity ≤ words))
theorem arity_bd : ∀ k : Nat, k < 56 → -3 ≤ (cmdOf k).arity ∧ (cmdOf k).arity ≤ 4 := by decide
theorem ret_b {a b : Bool} (h : a = b) : Ending.returned (.bool a) = .returned (.bool b) := by rw [h]

set_option maxHeartbeats 1000000 in
theorem fits_out (id words : Int) (w : World) (h : id < 0 ∨ 56 ≤ id) :
    Calls Try.prog 16 #[.int .i64 id, .int .i64 words] w fun e w' => e = .returned (.bool false) ∧ Below w.heap.size w w' := by
  go_enter Try.func16, Try.ntmps16
  go_wp2_with (go_at_call 13; refine (at_out id _ h).mono ?_; rintro e w1 ⟨rfl, hb1⟩; have HB := Aside0.mk (below_alloc hb1 (.cells #[.string ⟨#[]⟩, .int .i64 0, .int .u16 0] 26)); clear hb1)
  go_ret
  exact ⟨rfl, HB.out⟩

set_option maxHeartbeats 1000000 in
theorem fits_in (k : Nat) (words : Int) (w : World) (h : k < 56) :
    Calls Try.prog 16 #[.int .i64 k, .int .i64 words] w fun e w' => e = .returned (.bool (fitsB (cmdOf k) words)) ∧ Below w.heap.size w w' := by
  obtain ⟨h1, h2⟩ := arity_bd k h
  have HAT := Aside0.mk (fun w => at_in k w h)
  generalize cmdOf k = cmd at *
  clear h
  by_cases e1 : words = cmd.arity
  · have b1 : (words == cmd.arity) = true := by simp [e1]
    have HR := Aside0.mk (show fitsB cmd words = true from by unfold fitsB; rw [b1]; rfl)
    clear e1
    go_enter Try.func16, Try.ntmps16
    go_wp2_with (go_at_call 13; refine (HAT.out _).mono ?_; rintro e w1 ⟨rfl, hb1⟩; have HX := Aside0.mk (blk_new w1 (.cells #[.string cmd.name, .int .i64 cmd.arity, .int .u16 cmd.cats] 26)); have HB := Aside0.mk (below_alloc hb1 (.cells #[.string cmd.name, .int .i64 cmd.arity, .int .u16 cmd.cats] 26)); clear hb1)
    go_ret
    exact ⟨ret_b HR.out.symm, HB.out⟩
  · have b1 : (words == cmd.arity) = false := by simp [e1]
    rcases (show 0 ≤ cmd.arity ∨ (cmd.arity < 0 ∧ -cmd.arity ≤ words) ∨ (cmd.arity < 0 ∧ words < -cmd.arity) by omega) with e2 | ⟨e2, e3⟩ | ⟨e2, e3⟩
    · have HR := Aside0.mk (show fitsB cmd words = false from by unfold fitsB; rw [b1, decide_eq_false (by omega)]; rfl)
      clear e1
      go_enter Try.func16, Try.ntmps16
      go_wp2_with (go_at_call 13; refine (HAT.out _).mono ?_; rintro e w1 ⟨rfl, hb1⟩; have HX := Aside0.mk (blk_new w1 (.cells #[.string cmd.name, .int .i64 cmd.arity, .int .u16 cmd.cats] 26)); have HB := Aside0.mk (below_alloc hb1 (.cells #[.string cmd.name, .int .i64 cmd.arity, .int .u16 cmd.cats] 26)); clear hb1)
      go_ret
      exact ⟨ret_b HR.out.symm, HB.out⟩
    · have HR := Aside0.mk (show fitsB cmd words = true from by unfold fitsB; rw [b1, decide_eq_true e2, decide_eq_true e3]; rfl)
      clear e1
      go_enter Try.func16, Try.ntmps16
      go_wp2_with (go_at_call 13; refine (HAT.out _).mono ?_; rintro e w1 ⟨rfl, hb1⟩; have HX := Aside0.mk (blk_new w1 (.cells #[.string cmd.name, .int .i64 cmd.arity, .int .u16 cmd.cats] 26)); have HB := Aside0.mk (below_alloc hb1 (.cells #[.string cmd.name, .int .i64 cmd.arity, .int .u16 cmd.cats] 26)); clear hb1)
      go_ret
      exact ⟨ret_b HR.out.symm, HB.out⟩
    · have HR := Aside0.mk (show fitsB cmd words = false from by unfold fitsB; rw [b1, decide_eq_true e2, decide_eq_false (by omega)]; rfl)
      clear e1
      go_enter Try.func16, Try.ntmps16
      go_wp2_with (go_at_call 13; refine (HAT.out _).mono ?_; rintro e w1 ⟨rfl, hb1⟩; have HX := Aside0.mk (blk_new w1 (.cells #[.string cmd.name, .int .i64 cmd.arity, .int .u16 cmd.cats] 26)); have HB := Aside0.mk (below_alloc hb1 (.cells #[.string cmd.name, .int .i64 cmd.arity, .int .u16 cmd.cats] 26)); clear hb1)
      go_ret
      exact ⟨ret_b (by rw [HR.out, decide_eq_false (by omega)]), HB.out⟩

theorem count_calls (w : World) : Calls Try.prog 34 #[] w fun e w' => e = .returned (.int .i64 56) ∧ Below w.heap.size w w' := by
  go_enter Try.func34, Try.ntmps34
  go_wp2_with (go_at_call 35; refine (commands_calls _).mono ?_; rintro e w1 ⟨A, c, rfl, HF, hb1⟩; have HB := Aside0.mk hb1; clear hb1)
  go_ret
  exact ⟨rfl, HB.out⟩
end Go.Proofs.Ytflnpgfddedahaa.U
