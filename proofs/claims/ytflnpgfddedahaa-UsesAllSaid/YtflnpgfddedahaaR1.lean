/- The reference's table: one, All, At, Fits. -/
import Derived.Test.YtflnpgfddedahaaC2
namespace Go.Proofs.Ytflnpgfddedahaa.U
open Go.RowKit Go.Proofs.YtflnpgfddedahaaW.PrintWords
set_option linter.unusedVariables false
set_option linter.unusedSimpArgs false
set_option maxHeartbeats 1000000 in
theorem refOne_calls (s : ByteArray) (a g : Int) (b : Bool) (w : World) (h0 : 0 ≤ g) (h1 : g ≤ 60000) :
    Calls Try.prog 61 #[.string s, .int .i64 a, .int .u16 g, .bool b] w fun e w' => e = .returned (cmdV ⟨s, a, g + (if b then 2 else 1)⟩) ∧ Below w.heap.size w w' := by
  cases b
  all_goals
    go_enter Try.func61, Try.ntmps61
    have HX := Aside0.mk (blk_new w (.cells #[.string ⟨#[]⟩, .int .i64 0, .int .u16 0] 26))
    obtain ⟨x0, x1, x2, xf⟩ := cells3 HX.out
    go_wp2_with fail
  · have e1 : (g + 1) % 65536 = g + 1 := by omega
    refine bodyPost_ret (v := cmdV ⟨s, a, g + 1⟩) (by simp [results, Try.results61, go_sem, x0, x1, x2, e1]) rfl ⟨rfl, ?_⟩
    exact below_alloc (Below.refl _ _) _
  · have e1 : (g + 2) % 65536 = g + 2 := by omega
    refine bodyPost_ret (v := cmdV ⟨s, a, g + 2⟩) (by simp [results, Try.results61, go_sem, x0, x1, x2, e1]) rfl ⟨rfl, ?_⟩
    exact below_alloc (Below.refl _ _) _
/-- A group's mark with that of reading or writing. -/
def mark (g : Int) (b : Bool) : Int := g + (if b then 2 else 1)
theorem one_marks (s : ByteArray) (a g : Int) (b : Bool) (w : World) (h0 : 0 ≤ g) (h1 : g ≤ 60000) :
    Calls Try.prog 61 #[.string s, .int .i64 a, .int .u16 g, .bool b] w fun e w' => e = .returned (.agg #[.string s, .int .i64 a, .int .u16 (mark g b)]) ∧ Below w.heap.size w w' := refOne_calls s a g b w h0 h1
theorem info26 : (Try.prog.info? 26).map (fun i => (i.zero, i.size, i.bytes)) = some (some (.agg #[.string ⟨#[]⟩, .int .i64 0, .int .u16 0]), 3, 32) := by kernel_rfl
set_option maxHeartbeats 8000000 in
set_option maxRecDepth 100000 in
theorem refAll_calls (w : World) : Calls Try.prog 42 #[] w fun e w' => ∃ A c, e = .returned (.slice A 56 c) ∧ Aside0 (Kd.F kCmd w' (fun k => w.heap.size ≤ k) A 56 TABLE) ∧ Below w.heap.size w w' := by
  have HB := Aside0.mk (Below.refl w.heap.size w)
  go_enter Try.func42, Try.ntmps42
  go_wp2_with (first
    | (go_at_call 61; go_must (refine (one_marks _ _ _ _ _ (by decide) (by decide)).mono ?_); rintro e w1 ⟨rfl, hb1⟩; have HB := Aside0.mk (step2 HB.out hb1); clear hb1)
    | ((with_reducible refine gate_dst (N := 46) rfl ?_); go_must (refine Kd.N_lit kCmd (w0 := w) w.heap.size 26 rfl (N' := 46) rfl (xs := TABLE.take 43) (inner := (TABLE.take 43).flatMap cmdCells) (ok := fun k => w.heap.size ≤ k) (okp := fun _ => False) (by exact exec_lit 60 26 43 _ _ rfl rfl _ 3 (.agg #[.string ⟨#[]⟩, .int .i64 0, .int .u16 0]) Try.underlying60 (by kernel_rfl) (by kernel_rfl) (by decide) (by decide) (by kernel_rfl)) (cells_reps (fun c => fun W' _ => kCmd_K W' c) _) (fun _ h => h.elim) HB.out.size HB.out HB.out.size (by decide) ?_); go_must (intro v2 w2 hN hb _ _; obtain ⟨A1, c1, rfl⟩ := Kd.N_slice hN; obtain ⟨m1, hm1⟩ : ∃ m1, m1 = (TABLE.take 43).length := ⟨_, rfl⟩; rw [← hm1] at hN ⊢; have HM1 := Aside0.mk hm1; have HN := Aside0.mk hN; have HB := Aside0.mk hb; clear hN hb hm1))
    | ((with_reducible refine gate_dst (N := 60) rfl ?_); go_must (refine Kd.N_lit kCmd (w0 := w2) w2.heap.size 26 rfl (N' := 60) rfl (xs := TABLE.drop 43) (inner := (TABLE.drop 43).flatMap cmdCells) (ok := fun k => w2.heap.size ≤ k) (okp := fun _ => False) (by exact exec_lit 60 26 13 _ _ rfl rfl _ 3 (.agg #[.string ⟨#[]⟩, .int .i64 0, .int .u16 0]) Try.underlying60 (by kernel_rfl) (by kernel_rfl) (by decide) (by decide) (by kernel_rfl)) (cells_reps (fun c => fun W' _ => kCmd_K W' c) _) (fun _ h => h.elim) (Nat.le_refl _) (Below.refl _ _) (Nat.le_refl _) (by decide) ?_); go_must (intro v3 w3 hN hb _ _; obtain ⟨A2, c2, rfl⟩ := Kd.N_slice hN; obtain ⟨m2, hm2⟩ : ∃ m2, m2 = (TABLE.drop 43).length := ⟨_, rfl⟩; rw [← hm2] at hN ⊢; have HM2 := Aside0.mk hm2; have HN2 := Aside0.mk hN; have HB2 := Aside0.mk hb; clear hN hb hm2))
    | ((with_reducible refine gate_builtin (b := .append) (xs := #[.tmp 61, .tmp 62]) rfl ?_); at_builtin; go_must (refine Kd.N_append_rows kCmd (w0 := w) w.heap.size rfl (.tmp 61) (.tmp 62) 60 26 (.agg #[.string ⟨#[]⟩, .int .i64 0, .int .u16 0]) 32 rfl Try.underlying60 info26 rfl (by decide) (by decide) (.slice A1 m1 c1) (TABLE.take 43) (TABLE.drop 43) A2 m2 c2 (fun k => w.heap.size ≤ k) (fun k => w2.heap.size ≤ k) (by rfl) (by rfl) (Kd.N_below HN.out HB2.out) (Kd.N_F HN2.out) (fun b hb => ⟨Nat.le_trans HB.out.size hb, fun e => by have h1 := Kd.N_lt HN.out b e.symm; omega⟩) (fun k hk => Nat.le_trans (step2 HB.out HB2.out).size hk) (step2 HB.out HB2.out) (step2 HB.out HB2.out).size (by rw [HM2.out]; decide) ?_); go_must (intro v4 w4 hN hb _ _; obtain ⟨A3, c3, rfl⟩ := Kd.N_slice hN; rw [List.take_append_drop] at hN ⊢; have HN3 := Aside0.mk hN; have HB3 := Aside0.mk hb; clear hN hb)))
  go_ret
  exact ⟨A3, c3, rfl, ⟨Kd.N_F HN3.out⟩, HB3.out⟩
end Go.Proofs.Ytflnpgfddedahaa.U
