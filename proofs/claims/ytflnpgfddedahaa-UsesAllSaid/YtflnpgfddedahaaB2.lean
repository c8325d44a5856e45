/- strings.Builder's WriteByte at this program: one byte more. -/
import Derived.Test.YtflnpgfddedahaaB1
import Derived.Test.YtflnpgfddedahaaWWords
import Derived.Lib.SmallJoins
namespace Go.Proofs.Ytflnpgfddedahaa.U
open Go.RowKit Go Go.Great Go.Proofs.YtflnpgfddedahaaW.PrintWords
set_option linter.unusedVariables false
set_option linter.unusedSimpArgs false
theorem info5m : (Try.prog.info? 5).map (fun i => (i.zero, i.size, i.bytes)) = some (some (.int .u8 0), 1, 1) := by kernel_rfl
theorem info5 : ∃ j, Try.prog.info? 5 = some j ∧ j.zero = some (.int .u8 0) ∧ j.size = 1 ∧ j.bytes = 1 := by
  have h := info5m
  cases hj : Try.prog.info? 5 with
  | none => rw [hj] at h; cases h
  | some j => rw [hj] at h; simp at h; exact ⟨j, rfl, h.1, h.2.1, h.2.2⟩
set_option maxHeartbeats 1000000 in
theorem writeByte_calls (B b : Nat) (bs : List Value) (c : Int) (w : World) (h : Lib.IsBuilder 66 5 B b bs w) (hlen : bs.length + 1 ≤ 140737488355328) (hBw : B ≤ w.heap.size) :
    Calls Try.prog 38 #[.pointer (some ⟨b, 0, none⟩), .int .u8 c] w fun e w' => e = .returned .nilIface ∧ Lib.IsBuilder 66 5 B b (bs ++ [.int .u8 c]) w' ∧ Below B w w' := by
  obtain ⟨i0, hi, hz0, hz1, hz2⟩ := info5
  have CELL : ∀ (W : World) (p v : Value), W.heap[b]? = some (.cells #[p, v] 66 (0, 0)) → W.cell? ⟨b, 1, none⟩ = some v := fun W p v h => by simp [World.cell?, h]
  go_enter Try.func38, Try.ntmps38
  go_wp2_with (first | (go_at_call 48; go_loud (refine (copyCheck_calls B b bs _ h).mono ?_); rintro e w1 ⟨rfl, hBA, hb1⟩; obtain ⟨hB, v, hblk, hown, hne⟩ := hBA; have c1 := CELL w1 _ v hblk; have HB1 := Aside0.mk hb1; have HK := Aside0.mk hblk; have HO := Aside0.mk hown; have hsz : B ≤ w1.heap.size := Nat.le_trans hBw hb1.size; clear hb1 hblk hown) | (at_builtin; refine wpList_append_own _ rfl (.tmp 11) (.tmp 13) 29 rfl B 5 i0 (.int .u8 0) 1 1 Try.underlying29 hi hz0 hz1 hz2 rfl (by decide) _ _ _ rfl (HO.out.alloc _) ⟨w1.heap.size, 0, none⟩ 1 1 [.int .u8 c] rfl rfl (cell_one_new _ _ _) (by intro u hu; simp at hu; subst hu; rfl) (by unfold maxLen; omega) (by omega) (by simp; omega) ?_; intro v1 w2 hown1 hgrow1 hnil1; obtain ⟨g2, cap2, rfl⟩ := Go.Joins.ownsRow_form hown1 (Nat.succ_pos _); have hk2 := blk_grown (blk_alloc HK.out (.cells #[.int .u8 c] 5)) hgrow1 (fun e => hne e.symm); have c2 := CELL w2 _ _ hk2; have f2 := blk_frozen hk2 1; have HK2 := Aside0.mk hk2; have HO2 := Aside0.mk hown1; have HG2 := Aside0.mk hgrow1; clear hk2 hown1 hgrow1 hnil1))
  go_ret
  have hl : (bs ++ [Value.int .u8 c]).length = bs.length + 1 := by simp
  refine ⟨rfl, .inr (Lib.BuilderAt.put hB HK2.out (by rw [hl]; exact HO2.out) (by decide)), ?_⟩
  have hb2 : Below B w w2 := ((HB1.out.alloc hsz _).grown HG2.out (by simp; omega) (fun k hk => (HO.out.lt k hk).1))
  exact hb2.setCell (p := ⟨b, 1, none⟩) hB _
end Go.Proofs.Ytflnpgfddedahaa.U
